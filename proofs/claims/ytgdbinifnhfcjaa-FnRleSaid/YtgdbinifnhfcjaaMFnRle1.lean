/- Texts of one law put together (wip/merge2.py). -/
import Derived.Test.YtgdbinifnhfcjaaMFnRle0
/- impl.RleGet, walked. -/
set_option linter.unusedVariables false
set_option linter.unusedSimpArgs false
namespace Go.Proofs.Ytgdbinifnhfcjaa.P
open Go.RowKit Go.Proofs.YtgdbinifnhfcjaaW.PrintWords Go.Proofs.YtgdbinifnhfcjaaW.PrintLast Go.Proofs.YtgdbinifnhfcjaaW.PrintMore
def putL : List Int → List (List Int) → Nat → Nat → Option (List (List Int) × Nat)
  | [], rows, x, _ => some (rows, x)
  | b :: l, rows, x, y => if canPut rows x y = true then putL l (putR rows x y b) (x + 1) y else none
def bN (s : ByteArray) (i : Nat) : Nat := (bt s (i : Int)).toNat
theorem bN_int (s : ByteArray) (i : Nat) : bt s (i : Int) = (bN s i : Int) := by
  have := bt_range s (i : Int)
  unfold bN
  omega
theorem bN_le (s : ByteArray) (i : Nat) : bN s i ≤ 255 := by
  have := bt_range s (i : Int)
  unfold bN
  omega
theorem bN_at (s : ByteArray) (i : Nat) : ∀ h : i < s.size, (s[i]'h).toNat = bN s i := by
  intro h
  have h2 := bt_at s (i : Int) (by rw [Int.toNat_natCast]; exact h)
  unfold bN
  rw [← h2]
  simp
/-- The bytes from p on, n of them. -/
def bytesAt (s : ByteArray) (p n : Nat) : List Int := (List.range n).map fun i => (bN s (p + i) : Int)
theorem bytesAt_cons (s : ByteArray) (p k : Nat) : bytesAt s p (k + 1) = (bN s p : Int) :: bytesAt s (p + 1) k := by
  unfold bytesAt
  rw [List.range_succ_eq_map, List.map_cons, List.map_map]
  congr 1
  apply List.map_congr_left
  intro i _
  simp only [Function.comp, Nat.succ_eq_add_one, Nat.add_assoc, Nat.add_comm 1 i]
def rleV (s : ByteArray) : Nat → Nat → List (List Int) → Nat → Nat → Option (List (List Int))
  | 0, _, _, _, _ => none
  | d + 1, p, rows, x, y =>
    if p + 2 ≤ s.size then
      if 0 < bN s p then (putL (List.replicate (bN s p) (bN s (p + 1) : Int)) rows x y).bind fun q => rleV s d (p + 2) q.1 q.2 y
      else if bN s (p + 1) = 0 then rleV s d (p + 2) rows 0 (y + 1)
      else if bN s (p + 1) = 1 then (if p + 2 < s.size then none else some rows)
      else if bN s (p + 1) = 2 then (if s.size < p + 4 then none else rleV s d (p + 4) rows (x + bN s (p + 2)) (y + bN s (p + 3)))
      else if s.size < p + 2 + (bN s (p + 1) + bN s (p + 1) % 2) then none
      else (putL (bytesAt s (p + 2) (bN s (p + 1))) rows x y).bind fun q => rleV s d (p + 2 + (bN s (p + 1) + bN s (p + 1) % 2)) q.1 q.2 y
    else none
def zeroRows (W H : Nat) : List (List Int) := List.replicate H (List.replicate W 0)
/-- What is handed back: rows of one's own, no two of which share, and true; or nothing. -/
def RowsOut (w : World) (R : Option (List (List Int))) (e : Ending) (w' : World) : Prop :=
  match R with
  | some rows => ∃ v, e = .returned (.tuple #[v, .bool true]) ∧ Kd.S (Kd.slice 3 (Kd.int .i64)) 31 w' w.heap.size (fun _ => True) v rows
  | none => e = .returned (.tuple #[.slice none 0 0, .bool false])
set_option maxHeartbeats 8000000 in
set_option maxRecDepth 100000 in
theorem rleget_yes (s : ByteArray) (W H : Nat) (w : World) (hs : s.size ≤ 9000) (hW : W ≤ 100) (hH : H ≤ 100) :
    Calls Try.prog 13 #[.string s, .int .i64 (W : Int), .int .i64 (H : Int)] w fun e w' => RowsOut w (rleV s (s.size + 1) 0 (zeroRows W H) 0 0) e w' ∧ Below w.heap.size w w' := by
  have I1 := Aside0.mk (show impl_in.f (W : Int) 0 100 = some true by unfold impl_in.f; rw [if_pos (by omega), decide_eq_true (by omega)])
  have I2 := Aside0.mk (show impl_in.f (H : Int) 0 100 = some true by unfold impl_in.f; rw [if_pos (by omega), decide_eq_true (by omega)])
  have HS := Aside0.mk hs
  have HW := Aside0.mk hW
  have HH := Aside0.mk hH
  have s1 : decide ((9000 : Int) < (s.size : Int)) = false := decide_eq_false (by omega)
  have s2 : decide (9000 < s.size) = false := decide_eq_false (by omega)
  obtain ⟨R, hR⟩ : ∃ R, rleV s (s.size + 1) 0 (zeroRows W H) 0 0 = R := ⟨_, rfl⟩
  rw [hR]
  have HR := Aside0.mk hR
  clear hR hs hW hH
  go_enter Try.func13, Try.ntmps13
  go_wp2_with (first | (go_at_call 45; (with_reducible refine (impl_in.calls (W : Int) 0 100 true _ I1.out).mono ?_); rintro e w' ⟨rfl, ⟨n1, rfl⟩⟩) | (go_at_call 45; (with_reducible refine (impl_in.calls (H : Int) 0 100 true _ I2.out).mono ?_); rintro e w' ⟨rfl, ⟨n2, rfl⟩⟩))
  obtain ⟨g, hg⟩ : ∃ g, g = w.heap.size := ⟨_, rfl⟩
  have HG := Aside0.mk hg
  have hbk0 : ((w.drewN (n1 + n2)).alloc (.cells #[.slice none 0 0, .int .i64 0, .int .i64 0] 57)).heap[g]? = some (.cells #[.slice none 0 0, .int .i64 0, .int .i64 0] 57 (0, 0)) := by rw [hg]; exact blk_new (w.drewN (n1 + n2)) _
  rw [← hg]
  have HBK := Aside0.mk hbk0
  have HB0 := Aside0.mk (below_alloc (pw_below_drewN (Below.refl w.heap.size w) (n1 + n2)) (.cells #[.slice none 0 0, .int .i64 0, .int .i64 0] 57))
  clear hg hbk0
  generalize (w.drewN (n1 + n2)).alloc (.cells #[.slice none 0 0, .int .i64 0, .int .i64 0] 57) = wa at HBK HB0 ⊢
  go_loopg [30] H (fun kq v30 wr => ∃ (j : Nat) (v : Value), v30 = .int .i64 (j : Int) ∧ Aside0 (j + kq = H) ∧ Aside0 (wr.heap[g]? = some (.cells #[v, .int .i64 0, .int .i64 0] 57 (0, 0))) ∧ Aside0 (Kd.S (Kd.slice 3 (Kd.int .i64)) 31 wr w.heap.size (fun k => k ≠ g) v (zeroRows W j)) ∧ Aside0 (Below w.heap.size w wr))
  case atStart => exact ⟨0, .slice none 0 0, rfl, ⟨by omega⟩, HBK, ⟨Kd.S_nil _ _ _ _ _⟩, HB0⟩
  case round =>
    clear HBK HB0
    obtain ⟨j, v, rfl, hJ, hBK, hS, HB⟩ := hrel
    obtain ⟨rows, hrows⟩ : ∃ rows, zeroRows W j = rows := ⟨_, rfl⟩
    have HL := Aside0.mk (show rows.length ≤ 100 by rw [← hrows]; unfold zeroRows; rw [List.length_replicate]; have := hJ.out; have := HH.out; omega)
    have Hrows := Aside0.mk hrows
    rw [hrows] at hS
    clear hrows
    cases gk with
    | zero =>
      have hjH : j = H := by have := hJ.out; omega
      have hge : ¬ (j : Int) < (H : Int) := by omega
      have HF := Aside0.mk (show IsF w wr g (zeroRows W H) 0 0 from ⟨v, hBK.out, Nat.le_of_eq HG.out.symm, by rw [← hjH, Hrows.out]; exact hS.out⟩)
      clear hBK hS hJ hjH Hrows HL
      go_wp2
      go_loopg [9] (s.size + 1) (fun kq v9 wq => ∃ (p x y : Nat) (rs : List (List Int)), v9 = .int .i64 (p : Int) ∧ Aside0 (rleV s kq p rs x y = R) ∧ Aside0 (p ≤ s.size ∧ s.size < kq + p ∧ x ≤ 300 * p ∧ y ≤ 300 * p) ∧ Aside0 (IsF w wq g rs x y) ∧ Aside0 (Below w.heap.size w wq))
      case atStart => exact ⟨0, 0, 0, zeroRows W H, rfl, HR, ⟨by omega⟩, HF, HB⟩
      case round =>
        clear HR HF HB hge
        obtain ⟨p, x, y, rs, rfl, HR, HP, HF, HB⟩ := hrel
        cases gk with
        | zero => exact absurd HP.out (by omega)
        | succ d =>
          have HC := HR.out
          clear HR
          simp only [rleV] at HC
          by_cases hp2 : p + 2 ≤ s.size
          · rw [if_pos hp2] at HC
            have t1 : decide ((p : Int) + 2 ≤ (s.size : Int)) = true := decide_eq_true (by omega)
            have t2 : (p : Int) ≤ 9000 := by have := HP.out; have := HS.out; omega
            have f1 : (0 ≤ (p : Int)) = True := eq_true (by omega)
            have f2 : ((p : Int) < (s.size : Int)) = True := eq_true (by omega)
            have f3 : (0 ≤ (p : Int) + 1) = True := eq_true (by omega)
            have f4 : ((p : Int) + 1 < (s.size : Int)) = True := eq_true (by omega)
            have hx0 := bN_at s p
            have hx1 := bN_at s (p + 1)
            have hn9 := bN_le s p
            have hb9 := bN_le s (p + 1)
            generalize bN s p = n at HC hx0 hn9
            generalize bN s (p + 1) = b at HC hx1 hb9
            have HQ := Aside0.mk hp2
            have hxy : x ≤ 2700000 ∧ y ≤ 2700000 := by have := HP.out; omega
            have HXY := Aside0.mk hxy
            have HB9 := Aside0.mk hb9
            have n9 : (n : Int) ≤ 255 := by omega
            have b9 : (b : Int) ≤ 255 := by omega
            clear hp2 hxy hn9 hb9
            by_cases hn0 : 0 < n
            · rw [if_pos hn0] at HC
              obtain ⟨P, hP⟩ : ∃ P, putL (List.replicate n (b : Int)) rs x y = P := ⟨_, rfl⟩
              rw [hP] at HC
              have HC' := Aside0.mk HC
              have HPP := Aside0.mk hP
              have u1 : decide (0 < (n : Int)) = true := decide_eq_true (by omega)
              have u2 : decide (0 < n) = true := decide_eq_true hn0
              clear hn0 HC hP
              go_wp2
              go_quiet (fail)
              go_wp2
              go_loopg [92] n (fun kq v92 wz => ∃ (i x' : Nat) (rs' : List (List Int)), v92 = .int .i64 (i : Int) ∧ Aside0 (i + kq = n ∧ x' = x + i) ∧ Aside0 (putL (List.replicate kq (b : Int)) rs' x' y = P) ∧ Aside0 (IsF w wz g rs' x' y) ∧ Aside0 (Below w.heap.size w wz))
              case atStart => exact ⟨0, x, rs, rfl, ⟨by omega⟩, HPP, ⟨HF.out.drewN _⟩, ⟨pw_below_drewN HB.out _⟩⟩
              case round =>
                clear HPP HF HB
                obtain ⟨i, x', rs', rfl, HI, HPP, HF, HB⟩ := hrel
                cases gk with
                | zero =>
                  have hge : ¬ (i : Int) < (n : Int) := by have := HI.out; omega
                  have HE := Aside0.mk (show rleV s d (p + 2) rs' x' y = R by
                    have h := HC'.out
                    rw [← HPP.out] at h
                    exact h)
                  have w2 : wrap64 ((p : Int) + 2) = ((p + 2 : Nat) : Int) := by unfold wrap64; omega
                  go_wp2
                  go_roundg d
                  case measure => omega
                  case rel => exact ⟨p + 2, x', y, rs', (by first | go_num | (simp; done) | (rw [w2])), HE, ⟨by have := HP.out; have := HI.out; have := HQ.out; omega⟩, HF, HB⟩
                | succ kz =>
                  have hlt : (i : Int) < (n : Int) := by have := HI.out; omega
                  have hi9 : (i : Int) ≤ 255 := by omega
                  have hc := HPP.out
                  rw [List.replicate_succ] at hc
                  simp only [putL] at hc
                  by_cases hcan : canPut rs' x' y = true
                  · rw [if_pos hcan] at hc
                    have HN := Aside0.mk hc
                    have HCan := Aside0.mk hcan
                    clear hc hcan HPP
                    go_wp2_with (go_at_call 46; (with_reducible refine (field_put_yes w _ g rs' x' y (b : Int) (by have := HI.out; have := HXY.out; omega) (by have := HXY.out; omega) HB.out (by have := HB9.out; omega) HF.out HCan.out).mono ?_); rintro e w9 ⟨rfl, hf, hb⟩; have HF9 := Aside0.mk hf; have HB9' := Aside0.mk hb; clear hf hb)
                    go_roundg kz
                    case measure => omega
                    case rel => exact ⟨i + 1, x' + 1, _, by go_num, ⟨by have := HI.out; omega⟩, HN, HF9, HB9'⟩
                  · rw [if_neg hcan] at hc
                    have HCan := Aside0.mk (show canPut rs' x' y = false by cases h : canPut rs' x' y with | true => exact absurd h hcan | false => rfl)
                    have HE := Aside0.mk (show none = R by
                      have h := HC'.out
                      rw [← hc] at h
                      exact h)
                    clear hc hcan HPP
                    go_wp2_with (go_at_call 46; (with_reducible refine (field_put_no w _ g rs' x' y (b : Int) (by have := HI.out; have := HXY.out; omega) (by have := HXY.out; omega) HF.out HCan.out).mono ?_); rintro e w9 ⟨rfl, n9, rfl⟩)
                    go_ret2
                    exact ⟨by rw [← HE.out]; rfl, pw_below_drewN HB.out _⟩
            · rw [if_neg hn0] at HC
              obtain rfl : n = 0 := by omega
              have u1 : decide (0 < ((0 : Nat) : Int)) = false := by decide
              clear hn0
              by_cases hb0 : b = 0
              · rw [if_pos hb0] at HC
                have HN := Aside0.mk HC
                subst hb0
                have hF := HF.out
                obtain ⟨v1, hk1, hk2, hk3⟩ := HF.out
                have q1 : wr.cell? ⟨g, 1, none⟩ = some (.int .i64 (x : Int)) := (blk_cell hk1 1).trans rfl
                have q2 : wr.cell? ⟨g, 2, none⟩ = some (.int .i64 (y : Int)) := (blk_cell hk1 2).trans rfl
                have z1 := blk_frozen hk1 1
                have z2 := blk_frozen hk1 2
                have y9 : (y : Int) ≤ 2700000 := by have := HXY.out; omega
                clear HC hk1 hk2 hk3
                go_wp2
                go_quiet (fail)
                go_wp2
                go_roundg d
                case measure => omega
                case rel => exact ⟨p + 2, 0, y + 1, rs, (by first | go_num | (simp; done)), HN, ⟨by have := HP.out; have := HQ.out; omega⟩, ⟨(HF.out.drewN _).move 0 (y + 1)⟩, ⟨below_set (below_set (pw_below_drewN HB.out _) HF.out.ge) HF.out.ge⟩⟩
              · rw [if_neg hb0] at HC
                by_cases hb1 : b = 1
                · rw [if_pos hb1] at HC
                  subst hb1
                  clear hb0
                  by_cases hq : p + 2 < s.size
                  · rw [if_pos hq] at HC
                    have HE := Aside0.mk HC
                    have v1 : decide ((p : Int) + 2 < (s.size : Int)) = true := decide_eq_true (by omega)
                    clear HC hq
                    go_wp2
                    go_quiet (fail)
                    go_wp2
                    go_ret2
                    exact ⟨by rw [← HE.out]; rfl, pw_below_drewN HB.out _⟩
                  · rw [if_neg hq] at HC
                    have HE := Aside0.mk HC
                    have v1 : decide ((p : Int) + 2 < (s.size : Int)) = false := decide_eq_false (by omega)
                    obtain ⟨v, hk1, hk2, hk3⟩ := HF.out
                    have q0 : wr.cell? ⟨g, 0, none⟩ = some v := (blk_cell hk1 0).trans rfl
                    have HS3 := Aside0.mk hk3
                    clear HC hq hk1 hk2 hk3
                    go_wp2
                    go_quiet (fail)
                    go_wp2
                    go_ret2
                    exact ⟨by rw [← HE.out]; exact ⟨v, rfl, Kd.S_mono (Kd.S_drewN HS3.out _) (fun _ _ => trivial)⟩, pw_below_drewN HB.out _⟩
                · rw [if_neg hb1] at HC
                  by_cases hb2 : b = 2
                  · rw [if_pos hb2] at HC
                    subst hb2
                    clear hb0 hb1
                    by_cases hq : s.size < p + 4
                    · rw [if_pos hq] at HC
                      have HE := Aside0.mk HC
                      have v1 : decide ((s.size : Int) - ((p : Int) + 2) < 2) = true := decide_eq_true (by omega)
                      have v2 : (s.size : Int) ≤ 9000 := by have := HS.out; omega
                      clear HC hq
                      go_wp2
                      go_quiet (fail)
                      go_wp2
                      go_ret2
                      exact ⟨by rw [← HE.out]; rfl, pw_below_drewN HB.out _⟩
                    · rw [if_neg hq] at HC
                      have HN := Aside0.mk HC
                      have v1 : decide ((s.size : Int) - ((p : Int) + 2) < 2) = false := decide_eq_false (by omega)
                      have v2 : (s.size : Int) ≤ 9000 := by have := HS.out; omega
                      have g1 : (0 ≤ (p : Int) + 2) = True := eq_true (by omega)
                      have g2 : ((p : Int) + 2 < (s.size : Int)) = True := eq_true (by omega)
                      have g3 : (0 ≤ (p : Int) + 2 + 1) = True := eq_true (by omega)
                      have g4 : ((p : Int) + 2 + 1 < (s.size : Int)) = True := eq_true (by omega)
                      have hx2 := bN_at s (p + 2)
                      have hx3 := bN_at s (p + 2 + 1)
                      have k2 : (bN s (p + 2) : Int) ≤ 255 := by have := bN_le s (p + 2); omega
                      have k3 : (bN s (p + 2 + 1) : Int) ≤ 255 := by have := bN_le s (p + 2 + 1); omega
                      have HQ4 := Aside0.mk hq
                      have HF1 := HF.out.drewN
                      have y9 : (y : Int) ≤ 2700000 := by have := HXY.out; omega
                      have x9 : (x : Int) ≤ 2700000 := by have := HXY.out; omega
                      clear HC hq HF1
                      go_wp2
                      go_quiet (fail)
                      have HF1 := Aside0.mk (HF.out.drewN nq)
                      have HB1 := Aside0.mk (pw_below_drewN HB.out nq)
                      generalize wr.drewN nq = w4 at HF1 HB1 ⊢
                      obtain ⟨v, hk1, hk2, hk3⟩ := HF1.out
                      have q1 : w4.drew.cell? ⟨g, 1, none⟩ = some (.int .i64 (x : Int)) := (blk_cell (blk_drew hk1) 1).trans rfl
                      have q2 : w4.drew.cell? ⟨g, 2, none⟩ = some (.int .i64 (y : Int)) := (blk_cell (blk_drew hk1) 2).trans rfl
                      have z1 := blk_frozen (blk_drew hk1) 1
                      have z2 := blk_frozen (blk_drew hk1) 2
                      clear hk1 hk2 hk3
                      have q3 : w4.cell? ⟨g, 2, none⟩ = some (.int .i64 (y : Int)) := q2
                      have z3 : w4.frozen? ⟨g, 2, none⟩ = false := z2
                      have hx4 : ∀ h : ((p : Int) + 2).toNat < s.size, (s[((p : Int) + 2).toNat]'h).toNat = bN s (p + 2) := bN_at s (p + 2)
                      have hx5 : ∀ h : ((p : Int) + 2 + 1).toNat < s.size, (s[((p : Int) + 2 + 1).toNat]'h).toNat = bN s (p + 2 + 1) := bN_at s (p + 2 + 1)
                      have e1 : wrap64 ((p : Int) + 2 + 1) = (p : Int) + 2 + 1 := by unfold wrap64; omega
                      have e2 : wrap64 ((bN s (p + 2) : Nat) : Int) = (bN s (p + 2) : Int) := by unfold wrap64; omega
                      have e3 : wrap64 ((bN s (p + 2 + 1) : Nat) : Int) = (bN s (p + 2 + 1) : Int) := by unfold wrap64; omega
                      have e4 : wrap64 ((x : Int) + (bN s (p + 2) : Int)) = ((x + bN s (p + 2) : Nat) : Int) := by unfold wrap64; omega
                      have e5 : wrap64 ((y : Int) + (bN s (p + 2 + 1) : Int)) = ((y + bN s (p + 2 + 1) : Nat) : Int) := by unfold wrap64; omega
                      go_upto_region 37 with (fail)
                      refine start_ (n := 27) (S := fun w' => w'.cell? ⟨g, 1, none⟩ = some (.int .i64 (x : Int)) ∧ w'.cell? ⟨g, 2, none⟩ = some (.int .i64 (y : Int))) (ds := [23, 26]) (Array.replicate 27 false) (by kernel_rfl) rfl rfl ⟨q1, q2⟩ (fun hHeld => ?_)
                      refine pure_ (i := 0) (N := some 132) (v := ?_) (a' := ?_) #[true, false, false, false, false, false, false, false, false, false, false, false, false, false, false, false, false, false, false, false, false, false, false, false, false, false, false] rfl rfl (by kernel_rfl) (fun _ _ _ h => h) (Or.inl ⟨by rfl, ?_⟩) ?_ ?_
                      rotate_left
                      · intro w'
                        go_simp
                        with_reducible rfl
                      rotate_left
                      · simp only [Act.put, List.setIfInBounds_toArray, List.set_cons_zero, List.set_cons_succ, i64_w, i32_w]
                        rfl
                      refine pure_ (i := 1) (N := some 133) (v := ?_) (a' := ?_) #[true, true, false, false, false, false, false, false, false, false, false, false, false, false, false, false, false, false, false, false, false, false, false, false, false, false, false] rfl rfl (by kernel_rfl) (fun _ _ _ h => h) (Or.inl ⟨by rfl, ?_⟩) ?_ ?_
                      rotate_left
                      · intro w'
                        go_simp
                        with_reducible rfl
                      rotate_left
                      · simp only [Act.put, List.setIfInBounds_toArray, List.set_cons_zero, List.set_cons_succ, i64_w, i32_w]
                        rfl
                      refine pure_ (i := 2) (N := some 134) (v := ?_) (a' := ?_) #[true, true, true, false, false, false, false, false, false, false, false, false, false, false, false, false, false, false, false, false, false, false, false, false, false, false, false] rfl rfl (by kernel_rfl) (fun _ _ _ h => h) (Or.inl ⟨by rfl, ?_⟩) ?_ ?_
                      rotate_left
                      · intro w'
                        go_simp
                        with_reducible rfl
                      rotate_left
                      · simp only [Act.put, List.setIfInBounds_toArray, List.set_cons_zero, List.set_cons_succ, i64_w, i32_w]
                        rfl
                      refine pure_ (i := 3) (N := some 135) (v := ?_) (a' := ?_) #[true, true, true, true, false, false, false, false, false, false, false, false, false, false, false, false, false, false, false, false, false, false, false, false, false, false, false] rfl rfl (by kernel_rfl) (fun _ _ _ h => h) (Or.inl ⟨by rfl, ?_⟩) ?_ ?_
                      rotate_left
                      · intro w'
                        go_simp
                        with_reducible rfl
                      rotate_left
                      · simp only [Act.put, List.setIfInBounds_toArray, List.set_cons_zero, List.set_cons_succ, i64_w, i32_w]
                        rfl
                      refine pure_ (i := 4) (N := some 136) (v := ?_) (a' := ?_) #[true, true, true, true, true, false, false, false, false, false, false, false, false, false, false, false, false, false, false, false, false, false, false, false, false, false, false] rfl rfl (by kernel_rfl) (fun _ _ _ h => h) (Or.inl ⟨by rfl, ?_⟩) ?_ ?_
                      rotate_left
                      · intro w'
                        go_simp
                        with_reducible rfl
                      rotate_left
                      · simp only [Act.put, List.setIfInBounds_toArray, List.set_cons_zero, List.set_cons_succ, i64_w, i32_w]
                        rfl
                      refine take_ (i := 5) (N := some 137) (v := ?_) (a' := ?_) #[true, true, true, true, true, true, false, false, false, false, false, false, false, false, false, false, false, false, false, false, false, false, false, false, false, false, false] rfl rfl (by kernel_rfl) (fun _ _ _ h => h) (Or.inl ⟨by rfl, ?_⟩) hHeld ?_ ?_
                      rotate_left
                      · intro w' s0
                        go_simp
                        with_reducible rfl
                      rotate_left
                      · simp only [Act.put, List.setIfInBounds_toArray, List.set_cons_zero, List.set_cons_succ, i64_w, i32_w]
                        rfl
                      refine pure_ (i := 6) (N := some 138) (v := ?_) (a' := ?_) #[true, true, true, true, true, true, true, false, false, false, false, false, false, false, false, false, false, false, false, false, false, false, false, false, false, false, false] rfl rfl (by kernel_rfl) (fun _ _ _ h => h) (Or.inl ⟨by rfl, ?_⟩) ?_ ?_
                      rotate_left
                      · intro w'
                        go_simp
                        with_reducible rfl
                      rotate_left
                      · simp only [Act.put, List.setIfInBounds_toArray, List.set_cons_zero, List.set_cons_succ, i64_w, i32_w]
                        rfl
                      refine pure_ (i := 7) (N := some 139) (v := ?_) (a' := ?_) #[true, true, true, true, true, true, true, true, false, false, false, false, false, false, false, false, false, false, false, false, false, false, false, false, false, false, false] rfl rfl (by kernel_rfl) (fun _ _ _ h => h) (Or.inl ⟨by rfl, ?_⟩) ?_ ?_
                      rotate_left
                      · intro w'
                        go_simp
                        with_reducible rfl
                      rotate_left
                      · simp only [Act.put, List.setIfInBounds_toArray, List.set_cons_zero, List.set_cons_succ, i64_w, i32_w]
                        rfl
                      refine pure_ (i := 8) (N := some 140) (v := ?_) (a' := ?_) #[true, true, true, true, true, true, true, true, true, false, false, false, false, false, false, false, false, false, false, false, false, false, false, false, false, false, false] rfl rfl (by kernel_rfl) (fun _ _ _ h => h) (Or.inl ⟨by rfl, ?_⟩) ?_ ?_
                      rotate_left
                      · intro w'
                        go_simp
                        with_reducible rfl
                      rotate_left
                      · simp only [Act.put, List.setIfInBounds_toArray, List.set_cons_zero, List.set_cons_succ, i64_w, i32_w]
                        rfl
                      refine pure_ (i := 9) (N := some 141) (v := ?_) (a' := ?_) #[true, true, true, true, true, true, true, true, true, true, false, false, false, false, false, false, false, false, false, false, false, false, false, false, false, false, false] rfl rfl (by kernel_rfl) (fun _ _ _ h => h) (Or.inl ⟨by rfl, ?_⟩) ?_ ?_
                      rotate_left
                      · intro w'
                        go_simp
                        with_reducible rfl
                      rotate_left
                      · simp only [Act.put, List.setIfInBounds_toArray, List.set_cons_zero, List.set_cons_succ, i64_w, i32_w]
                        rfl
                      refine pure_ (i := 10) (N := some 142) (v := ?_) (a' := ?_) #[true, true, true, true, true, true, true, true, true, true, true, false, false, false, false, false, false, false, false, false, false, false, false, false, false, false, false] rfl rfl (by kernel_rfl) (fun _ _ _ h => h) (Or.inl ⟨by rfl, ?_⟩) ?_ ?_
                      rotate_left
                      · intro w'
                        go_simp
                        with_reducible rfl
                      rotate_left
                      · simp only [Act.put, List.setIfInBounds_toArray, List.set_cons_zero, List.set_cons_succ, i64_w, i32_w]
                        rfl
                      refine pure_ (i := 11) (N := some 143) (v := ?_) (a' := ?_) #[true, true, true, true, true, true, true, true, true, true, true, true, false, false, false, false, false, false, false, false, false, false, false, false, false, false, false] rfl rfl (by kernel_rfl) (fun _ _ _ h => h) (Or.inl ⟨by rfl, ?_⟩) ?_ ?_
                      rotate_left
                      · intro w'
                        go_simp
                        with_reducible rfl
                      rotate_left
                      · simp only [Act.put, List.setIfInBounds_toArray, List.set_cons_zero, List.set_cons_succ, i64_w, i32_w]
                        rfl
                      refine pure_ (i := 12) (N := some 144) (v := ?_) (a' := ?_) #[true, true, true, true, true, true, true, true, true, true, true, true, true, false, false, false, false, false, false, false, false, false, false, false, false, false, false] rfl rfl (by kernel_rfl) (fun _ _ _ h => h) (Or.inl ⟨by rfl, ?_⟩) ?_ ?_
                      rotate_left
                      · intro w'
                        go_simp
                        with_reducible rfl
                      rotate_left
                      · simp only [Act.put, List.setIfInBounds_toArray, List.set_cons_zero, List.set_cons_succ, i64_w, i32_w]
                        rfl
                      refine pure_ (i := 13) (N := some 145) (v := ?_) (a' := ?_) #[true, true, true, true, true, true, true, true, true, true, true, true, true, true, false, false, false, false, false, false, false, false, false, false, false, false, false] rfl rfl (by kernel_rfl) (fun _ _ _ h => h) (Or.inl ⟨by rfl, ?_⟩) ?_ ?_
                      rotate_left
                      · intro w'
                        go_simp
                        with_reducible rfl
                      rotate_left
                      · simp only [Act.put, List.setIfInBounds_toArray, List.set_cons_zero, List.set_cons_succ, i64_w, i32_w]
                        rfl
                      refine take_ (i := 14) (N := some 146) (v := ?_) (a' := ?_) #[true, true, true, true, true, true, true, true, true, true, true, true, true, true, true, false, false, false, false, false, false, false, false, false, false, false, false] rfl rfl (by kernel_rfl) (fun _ _ _ h => h) (Or.inl ⟨by rfl, ?_⟩) hHeld ?_ ?_
                      rotate_left
                      · intro w' s0
                        go_simp
                        with_reducible rfl
                      rotate_left
                      · simp only [Act.put, List.setIfInBounds_toArray, List.set_cons_zero, List.set_cons_succ, i64_w, i32_w]
                        rfl
                      refine pure_ (i := 15) (N := some 147) (v := ?_) (a' := ?_) #[true, true, true, true, true, true, true, true, true, true, true, true, true, true, true, true, false, false, false, false, false, false, false, false, false, false, false] rfl rfl (by kernel_rfl) (fun _ _ _ h => h) (Or.inl ⟨by rfl, ?_⟩) ?_ ?_
                      rotate_left
                      · intro w'
                        go_simp
                        with_reducible rfl
                      rotate_left
                      · simp only [Act.put, List.setIfInBounds_toArray, List.set_cons_zero, List.set_cons_succ, i64_w, i32_w]
                        rfl
                      refine pure_ (i := 16) (N := some 148) (v := ?_) (a' := ?_) #[true, true, true, true, true, true, true, true, true, true, true, true, true, true, true, true, true, false, false, false, false, false, false, false, false, false, false] rfl rfl (by kernel_rfl) (fun _ _ _ h => h) (Or.inl ⟨by rfl, ?_⟩) ?_ ?_
                      rotate_left
                      · intro w'
                        go_simp
                        with_reducible rfl
                      rotate_left
                      · simp only [Act.put, List.setIfInBounds_toArray, List.set_cons_zero, List.set_cons_succ, i64_w, i32_w]
                        rfl
                      refine pure_ (i := 17) (N := some 149) (v := ?_) (a' := ?_) #[true, true, true, true, true, true, true, true, true, true, true, true, true, true, true, true, true, true, false, false, false, false, false, false, false, false, false] rfl rfl (by kernel_rfl) (fun _ _ _ h => h) (Or.inl ⟨by rfl, ?_⟩) ?_ ?_
                      rotate_left
                      · intro w'
                        go_simp
                        with_reducible rfl
                      rotate_left
                      · simp only [Act.put, List.setIfInBounds_toArray, List.set_cons_zero, List.set_cons_succ, i64_w, i32_w]
                        rfl
                      refine pure_ (i := 18) (N := some 150) (v := ?_) (a' := ?_) #[true, true, true, true, true, true, true, true, true, true, true, true, true, true, true, true, true, true, true, false, false, false, false, false, false, false, false] rfl rfl (by kernel_rfl) (fun _ _ _ h => h) (Or.inl ⟨by rfl, ?_⟩) ?_ ?_
                      rotate_left
                      · intro w'
                        go_simp
                        with_reducible rfl
                      rotate_left
                      · simp only [Act.put, List.setIfInBounds_toArray, List.set_cons_zero, List.set_cons_succ, i64_w, i32_w]
                        rfl
                      refine pure_ (i := 19) (N := some 151) (v := ?_) (a' := ?_) #[true, true, true, true, true, true, true, true, true, true, true, true, true, true, true, true, true, true, true, true, false, false, false, false, false, false, false] rfl rfl (by kernel_rfl) (fun _ _ _ h => h) (Or.inl ⟨by rfl, ?_⟩) ?_ ?_
                      rotate_left
                      · intro w'
                        go_simp
                        with_reducible rfl
                      rotate_left
                      · simp only [Act.put, List.setIfInBounds_toArray, List.set_cons_zero, List.set_cons_succ, i64_w, i32_w]
                        rfl
                      refine pure_ (i := 20) (N := some 152) (v := ?_) (a' := ?_) #[true, true, true, true, true, true, true, true, true, true, true, true, true, true, true, true, true, true, true, true, true, false, false, false, false, false, false] rfl rfl (by kernel_rfl) (fun _ _ _ h => h) (Or.inl ⟨by rfl, ?_⟩) ?_ ?_
                      rotate_left
                      · intro w'
                        go_simp
                        with_reducible rfl
                      rotate_left
                      · simp only [Act.put, List.setIfInBounds_toArray, List.set_cons_zero, List.set_cons_succ, i64_w, i32_w]
                        rfl
                      refine pure_ (i := 21) (N := some 153) (v := ?_) (a' := ?_) #[true, true, true, true, true, true, true, true, true, true, true, true, true, true, true, true, true, true, true, true, true, true, false, false, false, false, false] rfl rfl (by kernel_rfl) (fun _ _ _ h => h) (Or.inl ⟨by rfl, ?_⟩) ?_ ?_
                      rotate_left
                      · intro w'
                        go_simp
                        with_reducible rfl
                      rotate_left
                      · simp only [Act.put, List.setIfInBounds_toArray, List.set_cons_zero, List.set_cons_succ, i64_w, i32_w]
                        rfl
                      refine pure_ (i := 22) (N := some 154) (v := ?_) (a' := ?_) #[true, true, true, true, true, true, true, true, true, true, true, true, true, true, true, true, true, true, true, true, true, true, true, false, false, false, false] rfl rfl (by kernel_rfl) (fun _ _ _ h => h) (Or.inl ⟨by rfl, ?_⟩) ?_ ?_
                      rotate_left
                      · intro w'
                        go_simp
                        with_reducible rfl
                      rotate_left
                      · simp only [Act.put, List.setIfInBounds_toArray, List.set_cons_zero, List.set_cons_succ, i64_w, i32_w]
                        rfl
                      refine last_ (i := 23) (N := none) #[true, true, true, true, true, true, true, true, true, true, true, true, true, true, true, true, true, true, true, true, true, true, true, true, false, false, false] rfl rfl (by kernel_rfl) (by decide) (fun K hK => ?_)
                      refine skip_ (w1 := ?_) (by rfl) rfl ?_ ?_
                      rotate_left
                      · go_simp
                        rfl
                      refine hK.out _ _ ?_
                      clear hK K
                      refine pure_ (i := 24) (N := some 155) (v := ?_) (a' := ?_) #[true, true, true, true, true, true, true, true, true, true, true, true, true, true, true, true, true, true, true, true, true, true, true, true, true, false, false] rfl rfl (by kernel_rfl) (fun _ _ _ h => h) (Or.inl ⟨by rfl, ?_⟩) ?_ ?_
                      rotate_left
                      · intro w'
                        go_simp
                        with_reducible rfl
                      rotate_left
                      · simp only [Act.put, List.setIfInBounds_toArray, List.set_cons_zero, List.set_cons_succ, i64_w, i32_w]
                        rfl
                      refine pure_ (i := 25) (N := some 156) (v := ?_) (a' := ?_) #[true, true, true, true, true, true, true, true, true, true, true, true, true, true, true, true, true, true, true, true, true, true, true, true, true, true, false] rfl rfl (by kernel_rfl) (fun _ _ _ h => h) (Or.inl ⟨by rfl, ?_⟩) ?_ ?_
                      rotate_left
                      · intro w'
                        go_simp
                        with_reducible rfl
                      rotate_left
                      · simp only [Act.put, List.setIfInBounds_toArray, List.set_cons_zero, List.set_cons_succ, i64_w, i32_w]
                        rfl
                      refine last_ (i := 26) (N := none) #[true, true, true, true, true, true, true, true, true, true, true, true, true, true, true, true, true, true, true, true, true, true, true, true, true, true, true] rfl rfl (by kernel_rfl) (by decide) (fun K hK => ?_)
                      refine skip_ (w1 := ?_) (by rfl) rfl ?_ ?_
                      rotate_left
                      · go_simp
                        rfl
                      refine hK.out _ _ ?_
                      clear hK K
                      refine done_ (by kernel_rfl) ?_
                      have hF2 : IsF w ((w4.setCell ⟨g, 1, none⟩ (.int .i64 ((x : Int) + (bN s (p + 2) : Int)))).setCell ⟨g, 2, none⟩ (.int .i64 ((y : Int) + (bN s (p + 2 + 1) : Int)))).drew g rs (x + bN s (p + 2)) (y + bN s (p + 2 + 1)) := (HF1.out.move (x + bN s (p + 2)) (y + bN s (p + 2 + 1))).drew
                      have hB2 : Below w.heap.size w ((w4.setCell ⟨g, 1, none⟩ (.int .i64 ((x : Int) + (bN s (p + 2) : Int)))).setCell ⟨g, 2, none⟩ (.int .i64 ((y : Int) + (bN s (p + 2 + 1) : Int)))).drew := below_drew1 (below_set (j := 2) (v := .int .i64 ((y : Int) + (bN s (p + 2 + 1) : Int))) (below_set (j := 1) (v := .int .i64 ((x : Int) + (bN s (p + 2) : Int))) HB1.out HF1.out.ge) HF1.out.ge)
                      have HF2 := Aside0.mk hF2
                      have HB2 := Aside0.mk hB2
                      generalize ((w4.setCell ⟨g, 1, none⟩ (.int .i64 ((x : Int) + (bN s (p + 2) : Int)))).setCell ⟨g, 2, none⟩ (.int .i64 ((y : Int) + (bN s (p + 2 + 1) : Int)))).drew = w5 at HF2 HB2 ⊢
                      clear hF2 hB2 q1 q2 q3 z1 z2 z3 hHeld e1 e2 e3 e4 e5
                      go_wp2
                      go_roundg d
                      case measure => omega
                      case rel => exact ⟨p + 4, x + bN s (p + 2), y + bN s (p + 2 + 1), rs, (by first | go_num | (simp; done)), HN, ⟨by have := HP.out; have := HQ4.out; omega⟩, HF2, HB2⟩
                  · rw [if_neg hb2] at HC
                    have b0 : ((b : Int) == 0) = false := beq_eq_false_iff_ne.2 (by omega)
                    have b1 : ((b : Int) == 1) = false := beq_eq_false_iff_ne.2 (by omega)
                    have b2 : ((b : Int) == 2) = false := beq_eq_false_iff_ne.2 (by omega)
                    have b3 : (b == 0) = false := beq_eq_false_iff_ne.2 hb0
                    have b4 : (b == 1) = false := beq_eq_false_iff_ne.2 hb1
                    have b5 : (b == 2) = false := beq_eq_false_iff_ne.2 hb2
                    have v2 : (s.size : Int) ≤ 9000 := by have := HS.out; omega
                    clear hb0 hb1 hb2
                    by_cases hq : s.size < p + 2 + (b + b % 2)
                    · rw [if_pos hq] at HC
                      have HE := Aside0.mk HC
                      have v1 : decide ((s.size : Int) - ((p : Int) + 2) < (b : Int) + (b : Int) % 2) = true := decide_eq_true (by omega)
                      clear HC hq
                      go_wp2
                      go_quiet (fail)
                      go_wp2
                      go_ret2
                      exact ⟨by rw [← HE.out]; rfl, pw_below_drewN HB.out _⟩
                    · rw [if_neg hq] at HC
                      obtain ⟨P, hP⟩ : ∃ P, putL (bytesAt s (p + 2) b) rs x y = P := ⟨_, rfl⟩
                      rw [hP] at HC
                      have HC' := Aside0.mk HC
                      have HPP := Aside0.mk hP
                      have HQ4 := Aside0.mk hq
                      have v1 : decide ((s.size : Int) - ((p : Int) + 2) < (b : Int) + (b : Int) % 2) = false := decide_eq_false (by omega)
                      have v3 : (0 : Int) ≤ (b : Int) % 2 := by omega
                      have v4 : (b : Int) % 2 ≤ 1 := by omega
                      clear HC hq hP
                      go_wp2
                      go_quiet (fail)
                      go_wp2
                      go_loopg [73] b (fun kq v73 wz => ∃ (i x' : Nat) (rs' : List (List Int)), v73 = .int .i64 (i : Int) ∧ Aside0 (i + kq = b ∧ x' = x + i) ∧ Aside0 (putL (bytesAt s (p + 2 + i) kq) rs' x' y = P) ∧ Aside0 (IsF w wz g rs' x' y) ∧ Aside0 (Below w.heap.size w wz))
                      case atStart => exact ⟨0, x, rs, rfl, ⟨by omega⟩, HPP, ⟨HF.out.drewN _⟩, ⟨pw_below_drewN HB.out _⟩⟩
                      case round =>
                        clear HPP HF HB
                        obtain ⟨i, x', rs', rfl, HI, HPP, HF, HB⟩ := hrel
                        cases gk with
                        | zero =>
                          have hge : ¬ (i : Int) < (b : Int) := by have := HI.out; omega
                          have HE := Aside0.mk (show rleV s d (p + 2 + (b + b % 2)) rs' x' y = R by
                            have h := HC'.out
                            rw [← HPP.out] at h
                            exact h)
                          go_wp2
                          go_roundg d
                          case measure => omega
                          case rel => exact ⟨p + 2 + (b + b % 2), x', y, rs', (by first | go_num | (simp; done) | (simp; omega)), HE, ⟨by have := HP.out; have := HI.out; have := HQ4.out; omega⟩, HF, HB⟩
                        | succ kz =>
                          have hlt : (i : Int) < (b : Int) := by have := HI.out; omega
                          have hi9 : (i : Int) ≤ 255 := by omega
                          have hib : p + 2 + i < s.size := by have := HI.out; have := HQ4.out; omega
                          have j1 : (0 ≤ (p : Int) + 2 + (i : Int)) = True := eq_true (by omega)
                          have j2 : ((p : Int) + 2 + (i : Int) < (s.size : Int)) = True := eq_true (by omega)
                          have hx6 := bN_at s (p + 2 + i)
                          have j3 : (bN s (p + 2 + i) : Int) ≤ 255 := by have := bN_le s (p + 2 + i); omega
                          have hc := HPP.out
                          rw [bytesAt_cons] at hc
                          simp only [putL] at hc
                          have HIB := Aside0.mk hib
                          clear hib
                          by_cases hcan : canPut rs' x' y = true
                          · rw [if_pos hcan] at hc
                            have HN := Aside0.mk hc
                            have HCan := Aside0.mk hcan
                            clear hc hcan HPP
                            go_wp2_with (go_at_call 46; (with_reducible refine (field_put_yes w _ g rs' x' y (bN s (p + 2 + i) : Int) (by have := HI.out; have := HXY.out; omega) (by have := HXY.out; omega) HB.out (by omega) HF.out HCan.out).mono ?_); rintro e w9 ⟨rfl, hf, hb⟩; have HF9 := Aside0.mk hf; have HB9' := Aside0.mk hb; clear hf hb)
                            go_roundg kz
                            case measure => omega
                            case rel => exact ⟨i + 1, x' + 1, _, by go_num, ⟨by have := HI.out; omega⟩, HN, HF9, HB9'⟩
                          · rw [if_neg hcan] at hc
                            have HCan := Aside0.mk (show canPut rs' x' y = false by cases h : canPut rs' x' y with | true => exact absurd h hcan | false => rfl)
                            have HE := Aside0.mk (show none = R by
                              have h := HC'.out
                              rw [← hc] at h
                              exact h)
                            clear hc hcan HPP
                            go_wp2_with (go_at_call 46; (with_reducible refine (field_put_no w _ g rs' x' y (bN s (p + 2 + i) : Int) (by have := HI.out; have := HXY.out; omega) (by have := HXY.out; omega) HF.out HCan.out).mono ?_); rintro e w9 ⟨rfl, n9, rfl⟩)
                            go_ret2
                            exact ⟨by rw [← HE.out]; rfl, pw_below_drewN HB.out _⟩
          · rw [if_neg hp2] at HC
            have HE := Aside0.mk HC
            have t1 : decide ((p : Int) + 2 ≤ (s.size : Int)) = false := decide_eq_false (by omega)
            have t2 : (p : Int) ≤ 9000 := by have := HP.out; have := HS.out; omega
            clear HC hp2
            go_wp2
            go_ret2
            exact ⟨by rw [← HE.out]; rfl, HB.out⟩
    | succ kq =>
      have hlt : (j : Int) < (H : Int) := by have := hJ.out; omega
      have hj : (j : Int) ≤ 100 := by have := hJ.out; have := HH.out; omega
      have c0 : wr.drew.cell? ⟨g, 0, none⟩ = some v := (blk_cell (blk_drew hBK.out) 0).trans rfl
      have hw0 : (0 : Int) ≤ (W : Int) := by omega
      go_upto_region 6 with (fail)
      refine start_ (n := 12) (S := fun w' => w'.cell? ⟨g, 0, none⟩ = some v) (ds := [8, 11]) #[false, false, false, false, false, false, false, false, false, false, false, false] (by kernel_rfl) rfl rfl c0 (fun hHeld => ?_)
      refine pure_ (i := 0) (N := some 32) (v := ?_) (a' := ?_) #[true, false, false, false, false, false, false, false, false, false, false, false] rfl rfl (by kernel_rfl) (fun _ _ _ h => h) (Or.inl ⟨by rfl, ?_⟩) ?_ ?_
      rotate_left
      · intro w'
        go_simp
        with_reducible rfl
      rotate_left
      · simp only [Act.put, List.setIfInBounds_toArray, List.set_cons_zero, List.set_cons_succ, i64_w, i32_w]
        rfl
      refine pure_ (i := 1) (N := some 33) (v := ?_) (a' := ?_) #[true, true, false, false, false, false, false, false, false, false, false, false] rfl rfl (by kernel_rfl) (fun _ _ _ h => h) (Or.inl ⟨by rfl, ?_⟩) ?_ ?_
      rotate_left
      · intro w'
        go_simp
        with_reducible rfl
      rotate_left
      · simp only [Act.put, List.setIfInBounds_toArray, List.set_cons_zero, List.set_cons_succ, i64_w, i32_w]
        rfl
      refine pure_ (i := 2) (N := some 34) (v := ?_) (a' := ?_) #[true, true, true, false, false, false, false, false, false, false, false, false] rfl rfl (by kernel_rfl) (fun _ _ _ h => h) (Or.inl ⟨by rfl, ?_⟩) ?_ ?_
      rotate_left
      · intro w'
        go_simp
        with_reducible rfl
      rotate_left
      · simp only [Act.put, List.setIfInBounds_toArray, List.set_cons_zero, List.set_cons_succ, i64_w, i32_w]
        rfl
      refine pure_ (i := 3) (N := some 35) (v := ?_) (a' := ?_) #[true, true, true, true, false, false, false, false, false, false, false, false] rfl rfl (by kernel_rfl) (fun _ _ _ h => h) (Or.inl ⟨by rfl, ?_⟩) ?_ ?_
      rotate_left
      · intro w'
        go_simp
        with_reducible rfl
      rotate_left
      · simp only [Act.put, List.setIfInBounds_toArray, List.set_cons_zero, List.set_cons_succ, i64_w, i32_w]
        rfl
      refine take_ (i := 4) (N := some 36) (v := ?_) (a' := ?_) #[true, true, true, true, true, false, false, false, false, false, false, false] rfl rfl (by kernel_rfl) (fun _ _ _ h => h) (Or.inl ⟨by rfl, ?_⟩) hHeld ?_ ?_
      rotate_left
      · intro w' s0
        go_simp
        with_reducible rfl
      rotate_left
      · simp only [Act.put, List.setIfInBounds_toArray, List.set_cons_zero, List.set_cons_succ, i64_w, i32_w]
        rfl
      refine pure_ (i := 5) (N := some 37) (v := ?_) (a' := ?_) #[true, true, true, true, true, true, false, false, false, false, false, false] rfl rfl (by kernel_rfl) (fun _ _ _ h => h) (Or.inl ⟨by rfl, ?_⟩) ?_ ?_
      rotate_left
      · intro w'
        go_simp
        with_reducible rfl
      rotate_left
      · simp only [Act.put, List.setIfInBounds_toArray, List.set_cons_zero, List.set_cons_succ, i64_w, i32_w]
        rfl
      refine one_ (i := 6) (N := some 38) #[true, true, true, true, true, true, true, false, false, false, false, false] rfl rfl (by kernel_rfl) (by decide) (fun K hK => ?_)
      refine Kd.R_make_step (Kd.int .i64) w.heap.size 3 (by rfl) (N := 38) rfl 31 _ _ rfl (W : Int) rfl rfl Try.underlying31 (.int .i64 0) 8 info3 rfl (by decide) (by omega) 0 (ok := fun k => wr.drew.heap.size ≤ k) (okp := fun k => wr.drew.heap.size ≤ k) rfl (fun k hk => hk) (Nat.le_refl _) (by omega) (by have := HW.out; rw [Int.toNat_natCast]; omega) (below_drew1 HB.out) (below_size (below_drew1 HB.out)) ?_
      intro v1 w1 ho1 hb1 hg1 hat1
      rw [Int.toNat_natCast] at ho1
      obtain ⟨A1, c1, rfl⟩ := Kd.R_slice ho1
      rw [List.length_replicate] at ho1 hat1 ⊢
      have hBK1 := blk_grown (blk_drew hBK.out) hg1 (by simp)
      have hS1 := Kd.S_grown (Kd.S_mono (Kd.S_bound (Kd.S_drew hS.out)) (fun k hk => (⟨hk.1, hk.2.2.1⟩ : k ≠ g ∧ k < wr.drew.heap.size))) hg1 (by simp)
      have hsz1 : wr.drew.heap.size ≤ w1.heap.size := hg1.size
      refine hK.out _ _ ((blk_cell hBK1 0).trans rfl) (fun hHeld => ?_)
      clear hK K
      refine norm_ (a' := ?_) ?_ ?_
      rotate_left
      · show Act.put _ (some 38) _ = _
        simp only [Act.put, List.setIfInBounds_toArray, List.set_cons_zero, List.set_cons_succ, i64_w, i32_w]
        rfl
      refine one_ (i := 7) (N := some 39) #[true, true, true, true, true, true, true, true, false, false, false, false] rfl rfl (by kernel_rfl) (by decide) (fun K hK => ?_)
      refine event_step (w1 := w1.alloc (.cells #[.slice A1 W c1] 31)) (v := .slice (some ⟨w1.heap.size, 0, none⟩) 1 1) (by rfl) ?_ ?_
      · go_simp
      refine hK.out _ _ ((blk_cell (blk_alloc hBK1 _) 0).trans rfl) (fun hHeld => ?_)
      clear hK K
      refine norm_ (a' := ?_) ?_ ?_
      rotate_left
      · show Act.put _ (some 39) _ = _
        simp only [Act.put, List.setIfInBounds_toArray, List.set_cons_zero, List.set_cons_succ, i64_w, i32_w]
        rfl
      refine last_ (i := 8) (N := some 40) #[true, true, true, true, true, true, true, true, true, false, false, false] rfl rfl (by kernel_rfl) (by decide) (fun K hK => ?_)
      refine Kd.S_append_step (Kd.slice 3 (Kd.int .i64)) (w0 := w) w.heap.size (by rfl) (.tmp 36) (.tmp 39) 22 31 (.slice none 0 0) 24 rfl Try.underlying22 info31 rfl (by decide) (by omega) v rows (List.replicate W 0) [.slice A1 W c1] (fun k => k ≠ g) (fun k => wr.drew.heap.size ≤ k) rfl rfl ⟨_, rfl, ho1⟩ ?_ ?_ ?_ hb1 (below_size hb1) ?_ ?_
      · intro k hk
        refine ⟨fun e => by have := blk_lt (blk_drew hBK.out); omega, fun e => ?_⟩
        have := Kd.S_lt (Kd.S_drew hS.out) k e.symm
        omega
      · intro k hk
        have := blk_lt hBK1
        omega
      · exact Kd.S_mono hS1 (fun k hk => ⟨hk.1, by omega⟩)
      · have := HL.out
        omega
      intro v2 w2 ho2 hb2 hg2 hat2
      obtain ⟨A2, c2, rfl⟩ := Kd.S_slice ho2
      rw [List.length_append, List.length_singleton] at ho2 hat2 ⊢
      have hBK2 := blk_grown hBK1 hg2 (Kd.S_away hS1 (fun k hk => hk.1))
      have q0 : w2.cell? ⟨g, 0, none⟩ = some v := (blk_cell hBK2 0).trans rfl
      have q1 := blk_frozen hBK2 0
      refine hK.out _ _ ?_
      clear hK K
      refine norm_ (a' := ?_) ?_ ?_
      rotate_left
      · show Act.put _ (some 40) _ = _
        simp only [Act.put, List.setIfInBounds_toArray, List.set_cons_zero, List.set_cons_succ, i64_w, i32_w]
        rfl
      refine pure_ (i := 9) (N := some 41) (v := ?_) (a' := ?_) #[true, true, true, true, true, true, true, true, true, true, false, false] rfl rfl (by kernel_rfl) (fun _ _ _ h => h) (Or.inl ⟨by rfl, ?_⟩) ?_ ?_
      rotate_left
      · intro w'
        go_simp
        with_reducible rfl
      rotate_left
      · simp only [Act.put, List.setIfInBounds_toArray, List.set_cons_zero, List.set_cons_succ, i64_w, i32_w]
        rfl
      refine pure_ (i := 10) (N := some 42) (v := ?_) (a' := ?_) #[true, true, true, true, true, true, true, true, true, true, true, false] rfl rfl (by kernel_rfl) (fun _ _ _ h => h) (Or.inl ⟨by rfl, ?_⟩) ?_ ?_
      rotate_left
      · intro w'
        go_simp
        with_reducible rfl
      rotate_left
      · simp only [Act.put, List.setIfInBounds_toArray, List.set_cons_zero, List.set_cons_succ, i64_w, i32_w]
        rfl
      refine last_ (i := 11) (N := none) #[true, true, true, true, true, true, true, true, true, true, true, true] rfl rfl (by kernel_rfl) (by decide) (fun K hK => ?_)
      refine skip_ (w1 := ?_) (by rfl) rfl ?_ ?_
      rotate_left
      · go_simp
        rfl
      refine hK.out _ _ ?_
      clear hK K
      refine done_ (by kernel_rfl) ?_
      have hBK3 := blk_put hBK2 0 (.slice A2 (rows.length + 1) c2) rfl
      have hS3 := Kd.S_far (p := ⟨g, 0, none⟩) ho2 (fun k hk => hk) (.slice A2 (rows.length + 1) c2)
      have hB3 := below_set (j := 0) (v := .slice A2 (rows.length + 1) c2) hb2 (Nat.le_of_eq HG.out.symm)
      have hz : rows ++ [List.replicate W 0] = zeroRows W (j + 1) := by rw [← Hrows.out]; unfold zeroRows; exact List.replicate_succ'.symm
      rw [hz] at hS3
      have HBK3 := Aside0.mk hBK3
      have HS3 := Aside0.mk hS3
      have HB3 := Aside0.mk hB3
      generalize (w2.setCell ⟨g, 0, none⟩ (.slice A2 (rows.length + 1) c2)) = w3 at HBK3 HS3 HB3 ⊢
      clear hBK3 hS3 hB3 hz hBK2 ho2 hb2 hg2 hat2 q0 q1 hBK1 hS1 hsz1 ho1 hb1 hg1 hat1 c0 hHeld
      go_wp2
      go_roundg kq
      case measure => omega
      case rel => exact ⟨j + 1, _, by go_num, ⟨by have := hJ.out; omega⟩, HBK3, HS3, HB3⟩
end Go.Proofs.Ytgdbinifnhfcjaa.P
