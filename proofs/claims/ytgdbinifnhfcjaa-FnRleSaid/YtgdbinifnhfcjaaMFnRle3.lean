/- Texts of one law put together (wip/merge2.py). -/
import Derived.Test.YtgdbinifnhfcjaaMFnRle2
/- spec.l7Rle.escape, walked. -/
set_option linter.unusedVariables false
set_option linter.unusedSimpArgs false
namespace Go.Proofs.Ytgdbinifnhfcjaa.P
open Go.RowKit Go.Proofs.YtgdbinifnhfcjaaW.PrintWords Go.Proofs.YtgdbinifnhfcjaaW.PrintLast Go.Proofs.YtgdbinifnhfcjaaW.PrintMore
theorem nxt_bound (s : ByteArray) (p : Nat) (h : p ≤ s.size) : p ≤ nxt s p ∧ nxt s p ≤ s.size := by
  unfold nxt
  split <;> omega
/-- What stands behind a nought. -/
def escV (s : ByteArray) (d p : Nat) (rows : List (List Int)) (x y b : Nat) : Option (List (List Int)) :=
  if b = 0 then rleV s d p rows 0 (y + 1)
  else if b = 1 then (if p < s.size then none else some rows)
  else if b = 2 then (if s.size < p + 2 then none else rleV s d (p + 2) rows (x + bN s p) (y + bN s (p + 1)))
  else if s.size < p + (b + b % 2) then none
  else (putL (bytesAt s p b) rows x y).bind fun q => rleV s d (p + (b + b % 2)) q.1 q.2 y
def EscOut (w0 : World) (g : Nat) (s : ByteArray) (d p : Nat) (rows : List (List Int)) (x y : Nat) (R : Option (List (List Int))) (e : Ending) (w' : World) : Prop :=
  ∃ (on ok : Bool) (p' x' y' : Nat) (rows' : List (List Int)), e = .returned (.bool on) ∧ IsL w0 w' g s p' rows' x' y' ok ∧ (p ≤ p' ∧ p' ≤ s.size ∧ x' ≤ x + 255 ∧ y' ≤ y + 255) ∧
    (on = false → ok = true ∧ p' = p ∧ R = if p < s.size then none else some rows') ∧ (on = true → (ok = true → rleV s d p' rows' x' y' = R) ∧ (ok = false → R = none))
set_option maxHeartbeats 4000000 in
set_option maxRecDepth 100000 in
theorem l7_escape (w0 w : World) (g : Nat) (s : ByteArray) (d p : Nat) (rows : List (List Int)) (x y b : Nat) (R : Option (List (List Int))) (hs : s.size ≤ 9000) (hp : p ≤ s.size) (hx : x ≤ 3000000) (hy : y ≤ 3000000) (hb9 : b ≤ 255) (hB : Below w0.heap.size w0 w) (hI : IsL w0 w g s p rows x y true) (hR : escV s d p rows x y b = R) :
    Calls Try.prog 100 #[.pointer (some ⟨g, 0, none⟩), .int .i64 (b : Int)] w fun e w' => EscOut w0 g s d p rows x y R e w' ∧ Below w0.heap.size w0 w' := by
  have HI := Aside0.mk hI
  have HB := Aside0.mk hB
  unfold escV at hR
  obtain ⟨⟨c0, c1, c3, c4, c5⟩, z⟩ := hI.cells
  have z3 := z 3
  have z4 := z 4
  clear hI hB z
  by_cases h0 : b = 0
  · rw [if_pos h0] at hR
    subst h0
    have HR := Aside0.mk hR
    have y9 : (y : Int) ≤ 3000000 := by omega
    have HP := Aside0.mk hp
    clear hR hp
    go_enter Try.func100, Try.ntmps100
    go_wp2
    go_ret
    exact ⟨⟨true, true, p, 0, y + 1, rows, rfl, (HI.out.x_ 0).y_ (y + 1), ⟨Nat.le_refl _, HP.out, by omega, by omega⟩, (fun h => by cases h), fun _ => ⟨fun _ => HR.out, fun h => by cases h⟩⟩, below_set (below_set HB.out HI.out.ge) HI.out.ge⟩
  rw [if_neg h0] at hR
  by_cases h1 : b = 1
  · rw [if_pos h1] at hR
    subst h1
    have HR := Aside0.mk hR
    have HP := Aside0.mk hp
    clear hR hp
    go_enter Try.func100, Try.ntmps100
    go_wp2
    go_ret
    exact ⟨⟨false, true, p, x, y, rows, rfl, HI.out, ⟨Nat.le_refl _, HP.out, by omega, by omega⟩, fun _ => ⟨rfl, rfl, HR.out.symm⟩, fun h => by cases h⟩, HB.out⟩
  rw [if_neg h1] at hR
  by_cases h2 : b = 2
  · rw [if_pos h2] at hR
    subst h2
    have HR := Aside0.mk hR
    have HP := Aside0.mk hp
    have HS := Aside0.mk hs
    have q1 : p ≤ 9000 := by omega
    have x9 : (x : Int) ≤ 3000000 := by omega
    have y9 : (y : Int) ≤ 3000000 := by omega
    have HXY := Aside0.mk (show x ≤ 3000000 ∧ y ≤ 3000000 from ⟨hx, hy⟩)
    have q2 := nxt_le s p
    have by1 : (byV s p : Int) ≤ 255 := by have := byV_le s p; omega
    have by2 : (byV s (nxt s p) : Int) ≤ 255 := by have := byV_le s (nxt s p); omega
    have e4 : wrap64 ((x : Int) + (byV s p : Int)) = (x : Int) + (byV s p : Int) := by unfold wrap64; omega
    have e5 : wrap64 ((y : Int) + (byV s (nxt s p) : Int)) = (y : Int) + (byV s (nxt s p) : Int) := by unfold wrap64; omega
    have E4 := Aside0.mk e4
    have E5 := Aside0.mk e5
    have Q := Aside0.mk (show p ≤ 9000 ∧ nxt s p ≤ 9001 from ⟨q1, by omega⟩)
    clear hR hp hs hx hy e4 e5 q1 q2 c0 c1 c4 c5 z3 z4
    have c3 : w.drew.cell? ⟨g, 3, none⟩ = some (.int .i64 (x : Int)) := c3
    go_enter Try.func100, Try.ntmps100
    go_upto_region 9 with (fail)
    have q1 := Q.out.1
    have e4 := E4.out
    refine start_ (n := 11) (S := fun w' => w'.cell? ⟨g, 3, none⟩ = some (.int .i64 (x : Int))) (ds := [10]) (Array.replicate 11 false) (by kernel_rfl) rfl rfl c3 (fun hHeld => ?_)
    refine pure_ (i := 0) (N := some 25) (v := ?_) (a' := ?_) #[true, false, false, false, false, false, false, false, false, false, false] rfl rfl (by kernel_rfl) (fun _ _ _ h => h) (Or.inl ⟨by rfl, ?_⟩) ?_ ?_
    rotate_left
    · intro w'
      go_simp
      with_reducible rfl
    rotate_left
    · simp only [Act.put, List.setIfInBounds_toArray, List.set_cons_zero, List.set_cons_succ, i64_w, i32_w]
      rfl
    refine pure_ (i := 1) (N := some 26) (v := ?_) (a' := ?_) #[true, true, false, false, false, false, false, false, false, false, false] rfl rfl (by kernel_rfl) (fun _ _ _ h => h) (Or.inl ⟨by rfl, ?_⟩) ?_ ?_
    rotate_left
    · intro w'
      go_simp
      with_reducible rfl
    rotate_left
    · simp only [Act.put, List.setIfInBounds_toArray, List.set_cons_zero, List.set_cons_succ, i64_w, i32_w]
      rfl
    refine pure_ (i := 2) (N := some 27) (v := ?_) (a' := ?_) #[true, true, true, false, false, false, false, false, false, false, false] rfl rfl (by kernel_rfl) (fun _ _ _ h => h) (Or.inl ⟨by rfl, ?_⟩) ?_ ?_
    rotate_left
    · intro w'
      go_simp
      with_reducible rfl
    rotate_left
    · simp only [Act.put, List.setIfInBounds_toArray, List.set_cons_zero, List.set_cons_succ, i64_w, i32_w]
      rfl
    refine pure_ (i := 3) (N := some 28) (v := ?_) (a' := ?_) #[true, true, true, true, false, false, false, false, false, false, false] rfl rfl (by kernel_rfl) (fun _ _ _ h => h) (Or.inl ⟨by rfl, ?_⟩) ?_ ?_
    rotate_left
    · intro w'
      go_simp
      with_reducible rfl
    rotate_left
    · simp only [Act.put, List.setIfInBounds_toArray, List.set_cons_zero, List.set_cons_succ, i64_w, i32_w]
      rfl
    refine take_ (i := 4) (N := some 29) (v := ?_) (a' := ?_) #[true, true, true, true, true, false, false, false, false, false, false] rfl rfl (by kernel_rfl) (fun _ _ _ h => h) (Or.inl ⟨by rfl, ?_⟩) hHeld ?_ ?_
    rotate_left
    · intro w' s0
      go_simp
      with_reducible rfl
    rotate_left
    · simp only [Act.put, List.setIfInBounds_toArray, List.set_cons_zero, List.set_cons_succ, i64_w, i32_w]
      rfl
    refine pure_ (i := 5) (N := some 30) (v := ?_) (a' := ?_) #[true, true, true, true, true, true, false, false, false, false, false] rfl rfl (by kernel_rfl) (fun _ _ _ h => h) (Or.inl ⟨by rfl, ?_⟩) ?_ ?_
    rotate_left
    · intro w'
      go_simp
      with_reducible rfl
    rotate_left
    · simp only [Act.put, List.setIfInBounds_toArray, List.set_cons_zero, List.set_cons_succ, i64_w, i32_w]
      rfl
    refine one_ (i := 6) (N := some 31) #[true, true, true, true, true, true, true, false, false, false, false] rfl rfl (by kernel_rfl) (by decide) (fun K hK => ?_)
    refine goes_ Try.func99 (by kernel_rfl) rfl #[.pointer (some ⟨g, 0, none⟩)] (by rfl) rfl rfl (by (try simp only [List.map_toArray, List.map_cons, List.map_nil]); first | done | rfl) ?_
    refine (l7_byte w0 _ g s p _ _ _ _ (by omega) (below_drew1 HB.out) HI.out.drew).mono ?_
    rintro e wa ⟨rfl, hi, hb⟩
    have HI9 := Aside0.mk hi
    have HB9 := Aside0.mk hb
    obtain ⟨⟨_, _, k3, k4, _⟩, kz⟩ := hi.cells
    have z9 := kz 3
    clear hi hb kz
    refine ⟨_, rfl, ?_⟩
    refine hK.out _ _ k3 (fun hHeld => ?_)
    clear hK K
    refine norm_ (a' := ?_) ?_ ?_
    rotate_left
    · show Act.put _ (some 31) _ = _
      simp only [Act.put, List.setIfInBounds_toArray, List.set_cons_zero, List.set_cons_succ, i64_w, i32_w]
      rfl
    refine pure_ (i := 7) (N := some 32) (v := ?_) (a' := ?_) #[true, true, true, true, true, true, true, true, false, false, false] rfl rfl (by kernel_rfl) (fun _ _ _ h => h) (Or.inl ⟨by rfl, ?_⟩) ?_ ?_
    rotate_left
    · intro w'
      go_simp
      with_reducible rfl
    rotate_left
    · simp only [Act.put, List.setIfInBounds_toArray, List.set_cons_zero, List.set_cons_succ, i64_w, i32_w]
      rfl
    refine pure_ (i := 8) (N := some 33) (v := ?_) (a' := ?_) #[true, true, true, true, true, true, true, true, true, false, false] rfl rfl (by kernel_rfl) (fun _ _ _ h => h) (Or.inl ⟨by rfl, ?_⟩) ?_ ?_
    rotate_left
    · intro w'
      go_simp
      with_reducible rfl
    rotate_left
    · simp only [Act.put, List.setIfInBounds_toArray, List.set_cons_zero, List.set_cons_succ, i64_w, i32_w]
      rfl
    refine pure_ (i := 9) (N := some 34) (v := ?_) (a' := ?_) #[true, true, true, true, true, true, true, true, true, true, false] rfl rfl (by kernel_rfl) (fun _ _ _ h => h) (Or.inl ⟨by rfl, ?_⟩) ?_ ?_
    rotate_left
    · intro w'
      go_simp
      with_reducible rfl
    rotate_left
    · simp only [Act.put, List.setIfInBounds_toArray, List.set_cons_zero, List.set_cons_succ, i64_w, i32_w]
      rfl
    refine last_ (i := 10) (N := none) #[true, true, true, true, true, true, true, true, true, true, true] rfl rfl (by kernel_rfl) (by decide) (fun K hK => ?_)
    refine skip_ (w1 := ?_) (by rfl) rfl ?_ ?_
    rotate_left
    · go_simp
      rfl
    refine hK.out _ _ ?_
    clear hK K
    refine done_ (by kernel_rfl) ?_
    have hI2 : IsL w0 (wa.setCell ⟨g, 3, none⟩ (.int .i64 ((x : Int) + (byV s p : Int)))) g s (nxt s p) rows (x + byV s p) y (true && decide (p < s.size)) := HI9.out.x_ (x + byV s p)
    have HI2 := Aside0.mk hI2
    have HB2 := Aside0.mk (below_set (j := 3) (v := .int .i64 ((x : Int) + (byV s p : Int))) HB9.out HI9.out.ge)
    generalize (wa.setCell ⟨g, 3, none⟩ (.int .i64 ((x : Int) + (byV s p : Int)))) = w3 at HI2 HB2 ⊢
    clear hI2 HI9 HB9 k3 k4 z9 c3 hHeld e4 q1
    obtain ⟨⟨_, _, _, c4, _⟩, _⟩ := HI2.out.cells
    have c4 : w3.drew.cell? ⟨g, 4, none⟩ = some (.int .i64 (y : Int)) := c4
    go_upto_region 10 with (fail)
    have q1 := Q.out.2
    have e5 := E5.out
    refine start_ (n := 11) (S := fun w' => w'.cell? ⟨g, 4, none⟩ = some (.int .i64 (y : Int))) (ds := [10]) (Array.replicate 11 false) (by kernel_rfl) rfl rfl c4 (fun hHeld => ?_)
    refine pure_ (i := 0) (N := some 35) (v := ?_) (a' := ?_) #[true, false, false, false, false, false, false, false, false, false, false] rfl rfl (by kernel_rfl) (fun _ _ _ h => h) (Or.inl ⟨by rfl, ?_⟩) ?_ ?_
    rotate_left
    · intro w'
      go_simp
      with_reducible rfl
    rotate_left
    · simp only [Act.put, List.setIfInBounds_toArray, List.set_cons_zero, List.set_cons_succ, i64_w, i32_w]
      rfl
    refine pure_ (i := 1) (N := some 36) (v := ?_) (a' := ?_) #[true, true, false, false, false, false, false, false, false, false, false] rfl rfl (by kernel_rfl) (fun _ _ _ h => h) (Or.inl ⟨by rfl, ?_⟩) ?_ ?_
    rotate_left
    · intro w'
      go_simp
      with_reducible rfl
    rotate_left
    · simp only [Act.put, List.setIfInBounds_toArray, List.set_cons_zero, List.set_cons_succ, i64_w, i32_w]
      rfl
    refine pure_ (i := 2) (N := some 37) (v := ?_) (a' := ?_) #[true, true, true, false, false, false, false, false, false, false, false] rfl rfl (by kernel_rfl) (fun _ _ _ h => h) (Or.inl ⟨by rfl, ?_⟩) ?_ ?_
    rotate_left
    · intro w'
      go_simp
      with_reducible rfl
    rotate_left
    · simp only [Act.put, List.setIfInBounds_toArray, List.set_cons_zero, List.set_cons_succ, i64_w, i32_w]
      rfl
    refine pure_ (i := 3) (N := some 38) (v := ?_) (a' := ?_) #[true, true, true, true, false, false, false, false, false, false, false] rfl rfl (by kernel_rfl) (fun _ _ _ h => h) (Or.inl ⟨by rfl, ?_⟩) ?_ ?_
    rotate_left
    · intro w'
      go_simp
      with_reducible rfl
    rotate_left
    · simp only [Act.put, List.setIfInBounds_toArray, List.set_cons_zero, List.set_cons_succ, i64_w, i32_w]
      rfl
    refine take_ (i := 4) (N := some 39) (v := ?_) (a' := ?_) #[true, true, true, true, true, false, false, false, false, false, false] rfl rfl (by kernel_rfl) (fun _ _ _ h => h) (Or.inl ⟨by rfl, ?_⟩) hHeld ?_ ?_
    rotate_left
    · intro w' s0
      go_simp
      with_reducible rfl
    rotate_left
    · simp only [Act.put, List.setIfInBounds_toArray, List.set_cons_zero, List.set_cons_succ, i64_w, i32_w]
      rfl
    refine pure_ (i := 5) (N := some 40) (v := ?_) (a' := ?_) #[true, true, true, true, true, true, false, false, false, false, false] rfl rfl (by kernel_rfl) (fun _ _ _ h => h) (Or.inl ⟨by rfl, ?_⟩) ?_ ?_
    rotate_left
    · intro w'
      go_simp
      with_reducible rfl
    rotate_left
    · simp only [Act.put, List.setIfInBounds_toArray, List.set_cons_zero, List.set_cons_succ, i64_w, i32_w]
      rfl
    refine one_ (i := 6) (N := some 41) #[true, true, true, true, true, true, true, false, false, false, false] rfl rfl (by kernel_rfl) (by decide) (fun K hK => ?_)
    refine goes_ Try.func99 (by kernel_rfl) rfl #[.pointer (some ⟨g, 0, none⟩)] (by rfl) rfl rfl (by (try simp only [List.map_toArray, List.map_cons, List.map_nil]); first | done | rfl) ?_
    refine (l7_byte w0 _ g s (nxt s p) _ _ _ _ (by omega) (below_drew1 HB2.out) HI2.out.drew).mono ?_
    rintro e wb ⟨rfl, hi, hb⟩
    have HI9 := Aside0.mk hi
    have HB9 := Aside0.mk hb
    obtain ⟨⟨_, _, k3, k4, _⟩, kz⟩ := hi.cells
    have z9 := kz 4
    clear hi hb kz
    refine ⟨_, rfl, ?_⟩
    refine hK.out _ _ k4 (fun hHeld => ?_)
    clear hK K
    refine norm_ (a' := ?_) ?_ ?_
    rotate_left
    · show Act.put _ (some 41) _ = _
      simp only [Act.put, List.setIfInBounds_toArray, List.set_cons_zero, List.set_cons_succ, i64_w, i32_w]
      rfl
    refine pure_ (i := 7) (N := some 42) (v := ?_) (a' := ?_) #[true, true, true, true, true, true, true, true, false, false, false] rfl rfl (by kernel_rfl) (fun _ _ _ h => h) (Or.inl ⟨by rfl, ?_⟩) ?_ ?_
    rotate_left
    · intro w'
      go_simp
      with_reducible rfl
    rotate_left
    · simp only [Act.put, List.setIfInBounds_toArray, List.set_cons_zero, List.set_cons_succ, i64_w, i32_w]
      rfl
    refine pure_ (i := 8) (N := some 43) (v := ?_) (a' := ?_) #[true, true, true, true, true, true, true, true, true, false, false] rfl rfl (by kernel_rfl) (fun _ _ _ h => h) (Or.inl ⟨by rfl, ?_⟩) ?_ ?_
    rotate_left
    · intro w'
      go_simp
      with_reducible rfl
    rotate_left
    · simp only [Act.put, List.setIfInBounds_toArray, List.set_cons_zero, List.set_cons_succ, i64_w, i32_w]
      rfl
    refine pure_ (i := 9) (N := some 44) (v := ?_) (a' := ?_) #[true, true, true, true, true, true, true, true, true, true, false] rfl rfl (by kernel_rfl) (fun _ _ _ h => h) (Or.inl ⟨by rfl, ?_⟩) ?_ ?_
    rotate_left
    · intro w'
      go_simp
      with_reducible rfl
    rotate_left
    · simp only [Act.put, List.setIfInBounds_toArray, List.set_cons_zero, List.set_cons_succ, i64_w, i32_w]
      rfl
    refine last_ (i := 10) (N := none) #[true, true, true, true, true, true, true, true, true, true, true] rfl rfl (by kernel_rfl) (by decide) (fun K hK => ?_)
    refine skip_ (w1 := ?_) (by rfl) rfl ?_ ?_
    rotate_left
    · go_simp
      rfl
    refine hK.out _ _ ?_
    clear hK K
    refine done_ (by kernel_rfl) ?_
    have hI3 : IsL w0 (wb.setCell ⟨g, 4, none⟩ (.int .i64 ((y : Int) + (byV s (nxt s p) : Int)))) g s (nxt s (nxt s p)) rows (x + byV s p) (y + byV s (nxt s p)) (true && decide (p < s.size) && decide (nxt s p < s.size)) := HI9.out.y_ (y + byV s (nxt s p))
    have HI3 := Aside0.mk hI3
    have HB3 := Aside0.mk (below_set (j := 4) (v := .int .i64 ((y : Int) + (byV s (nxt s p) : Int))) HB9.out HI9.out.ge)
    generalize (wb.setCell ⟨g, 4, none⟩ (.int .i64 ((y : Int) + (byV s (nxt s p) : Int)))) = w4 at HI3 HB3 ⊢
    clear hI3 HI9 HB9 k3 k4 z9 c4 hHeld e5 q1
    go_wp2
    go_ret
    refine ⟨⟨true, _, _, _, _, rows, rfl, HI3.out, ?_, (fun h => by cases h), fun _ => ?_⟩, HB3.out⟩
    · have m0 := HP.out
      have m1 := byV_le s p
      have m2 := byV_le s (nxt s p)
      have m3 := nxt_bound s p m0
      have m4 := nxt_bound s (nxt s p) m3.2
      omega
    · by_cases g1 : p + 2 ≤ s.size
      · have n1 : nxt s p = p + 1 := by unfold nxt; rw [if_pos (by omega)]
        have n2 : nxt s (p + 1) = p + 2 := by unfold nxt; rw [if_pos (by omega)]
        have v1 : byV s p = bN s p := by unfold byV; rw [if_pos (by omega)]
        have v2 : byV s (p + 1) = bN s (p + 1) := by unfold byV; rw [if_pos (by omega)]
        have h := HR.out
        rw [if_neg (by omega)] at h
        rw [n1, n2, v1, v2, decide_eq_true (show p < s.size by omega), decide_eq_true (show p + 1 < s.size by omega)]
        exact ⟨fun _ => h, fun h => by cases h⟩
      · have h := HR.out
        rw [if_pos (by omega)] at h
        refine ⟨fun hk => ?_, fun _ => h.symm⟩
        exfalso
        simp only [Bool.true_and, Bool.and_eq_true, decide_eq_true_eq] at hk
        unfold nxt at hk
        rw [if_pos hk.1] at hk
        omega
  rw [if_neg h2] at hR
  obtain ⟨P, hP⟩ : ∃ P, putL (bytesAt s p b) rows x y = P := ⟨_, rfl⟩
  rw [hP] at hR
  have HR := Aside0.mk hR
  have HPP := Aside0.mk hP
  have HP := Aside0.mk hp
  have HS := Aside0.mk hs
  have HXY := Aside0.mk (show x ≤ 3000000 ∧ y ≤ 3000000 ∧ b ≤ 255 from ⟨hx, hy, hb9⟩)
  have b0 : ((b : Int) == 0) = false := beq_eq_false_iff_ne.2 (by omega)
  have b1 : ((b : Int) == 1) = false := beq_eq_false_iff_ne.2 (by omega)
  have b2 : ((b : Int) == 2) = false := beq_eq_false_iff_ne.2 (by omega)
  have b3 : (b == 0) = false := beq_eq_false_iff_ne.2 h0
  have b4 : (b == 1) = false := beq_eq_false_iff_ne.2 h1
  have b5 : (b == 2) = false := beq_eq_false_iff_ne.2 h2
  have b9 : (b : Int) ≤ 255 := by omega
  have H3 := Aside0.mk (show 3 ≤ b by omega)
  clear h0 h1 h2 hR hP hp hs hx hy hb9 c0 c1 c3 c4 c5 z3 z4
  go_enter Try.func100, Try.ntmps100
  go_wp2
  go_loopg [5] b (fun kq v5 wz => ∃ (i p' x' : Nat) (rs' : List (List Int)) (ok : Bool), v5 = .int .i64 (i : Int) ∧ Aside0 (i + kq = b ∧ x' ≤ x + i ∧ p ≤ p' ∧ p' ≤ s.size) ∧ Aside0 (ok = true → p' = p + i ∧ putL (bytesAt s (p + i) kq) rs' x' y = P) ∧ Aside0 (ok = false → R = none) ∧ Aside0 (IsL w0 wz g s p' rs' x' y ok) ∧ Aside0 (Below w0.heap.size w0 wz))
  case atStart => exact ⟨0, p, x, rows, true, rfl, ⟨by have := HP.out; omega⟩, ⟨fun _ => ⟨rfl, HPP.out⟩⟩, ⟨fun h => by cases h⟩, HI, HB⟩
  case round =>
    clear HPP HI HB
    obtain ⟨i, p', x', rs', ok, rfl, HJ, HT, HN, HI, HB⟩ := hrel
    obtain ⟨⟨_, _, _, _, c5⟩, _⟩ := HI.out.cells
    have hex : (ok = false ∨ gk = 0) ∨ ∃ kz, ok = true ∧ gk = kz + 1 := by
      cases ok with
      | false => exact .inl (.inl rfl)
      | true =>
        cases gk with
        | zero => exact .inl (.inr rfl)
        | succ kz => exact .inr ⟨kz, rfl, rfl⟩
    rcases hex with hex | ⟨kz, rfl, rfl⟩
    · -- the loop's end
      have HT2 := Aside0.mk (show ok = true → p' = p + b ∧ some (rs', x') = P by
        rcases hex with rfl | rfl
        · intro h; cases h
        · intro h
          have h2 := HT.out h
          have hib : i = b := by have := HJ.out; omega
          subst hib
          exact h2)
      have i9 : (i : Int) ≤ 255 := by have := HJ.out; omega
      have p9 : p' ≤ 9000 := by have := HJ.out; have := HS.out; omega
      have hends : (decide ((i : Int) < (b : Int)) = true ∧ ok = false) ∨ decide ((i : Int) < (b : Int)) = false ∧ i = b := by
        by_cases hl : (i : Int) < (b : Int)
        · rcases hex with rfl | rfl
          · exact .inl ⟨decide_eq_true hl, rfl⟩
          · exfalso; have := HJ.out; omega
        · exact .inr ⟨decide_eq_false hl, by have := HJ.out; omega⟩
      have P9 := Aside0.mk p9
      clear hex p9
      by_cases hodd : b % 2 = 1
      · have o1 : ((b : Int) % 2 == 1) = true := beq_iff_eq.2 (by omega)
        have HO := Aside0.mk hodd
        clear hodd
        have hfin : ∀ w' : World, IsL w0 w' g s (nxt s p') rs' x' y (ok && decide (p' < s.size)) → Below w0.heap.size w0 w' → EscOut w0 g s d p rows x y R (.returned (.bool true)) w' ∧ Below w0.heap.size w0 w' := by
          intro w' hi hb
          have m0 := HJ.out
          have m1 := nxt_bound s p' m0.2.2.2
          have m2 := HXY.out
          have m3 := HO.out
          refine ⟨⟨true, _, _, _, _, rs', rfl, hi, ⟨by omega, by omega, by omega, by omega⟩, (fun h => by cases h), fun _ => ⟨fun hk => ?_, fun hk => ?_⟩⟩, hb⟩
          · simp only [Bool.and_eq_true, decide_eq_true_eq] at hk
            obtain ⟨h1, h2⟩ := HT2.out hk.1
            have h3 := HR.out
            rw [if_neg (by omega), ← h2] at h3
            unfold nxt
            rw [if_pos hk.2, ← h3, h1, m3]
            rfl
          · cases hok : ok with
            | false => exact HN.out hok
            | true =>
              rw [hok, Bool.true_and] at hk
              have hk2 : ¬ p' < s.size := of_decide_eq_false hk
              obtain ⟨h1, h2⟩ := HT2.out hok
              have h3 := HR.out
              rw [if_pos (by omega)] at h3
              exact h3.symm
        have HFIN := Aside0.mk hfin
        clear hfin
        rcases hends with ⟨g1, rfl⟩ | ⟨g1, rfl⟩
        all_goals
          go_wp2_with (go_at_call 99; (with_reducible refine (l7_byte w0 _ g s p' rs' x' y _ (by have := P9.out; omega) HB.out HI.out).mono ?_); rintro e w9 ⟨rfl, hi, hb⟩; have HI9 := Aside0.mk hi; have HB9 := Aside0.mk hb; clear hi hb)
          all_goals (go_ret; exact HFIN.out _ HI9.out HB9.out)
      · have o1 : ((b : Int) % 2 == 1) = false := beq_eq_false_iff_ne.2 (by omega)
        have HO := Aside0.mk (show b % 2 = 0 by omega)
        clear hodd
        have hfin : EscOut w0 g s d p rows x y R (.returned (.bool true)) wr ∧ Below w0.heap.size w0 wr := by
          have m0 := HJ.out
          have m2 := HXY.out
          have m3 := HO.out
          refine ⟨⟨true, _, _, _, _, rs', rfl, HI.out, ⟨by omega, by omega, by omega, by omega⟩, (fun h => by cases h), fun _ => ⟨fun hk => ?_, fun hk => HN.out hk⟩⟩, HB.out⟩
          obtain ⟨h1, h2⟩ := HT2.out hk
          have h3 := HR.out
          rw [if_neg (by omega), ← h2] at h3
          rw [← h3, h1, m3]
          rfl
        have HFIN := Aside0.mk hfin
        clear hfin
        rcases hends with ⟨g1, rfl⟩ | ⟨g1, rfl⟩
        all_goals
          go_wp2
          all_goals (go_ret; exact HFIN.out)
    · -- one more
      have hlt : (i : Int) < (b : Int) := by have := HJ.out; omega
      have i9 : (i : Int) ≤ 255 := by have := HJ.out; omega
      have P9 := Aside0.mk (show p' ≤ 9000 by have := HJ.out; have := HS.out; omega)
      obtain ⟨hpi, hput⟩ := HT.out rfl
      rw [bytesAt_cons] at hput
      simp only [putL] at hput
      have HPI := Aside0.mk hpi
      by_cases hsz : p' < s.size
      · have e1 : byV s p' = bN s (p + i) := by unfold byV; rw [if_pos hsz, hpi]
        have e2 : nxt s p' = p' + 1 := by unfold nxt; rw [if_pos hsz]
        have E1 := Aside0.mk e1
        have E2 := Aside0.mk e2
        have E3 := Aside0.mk hsz
        clear e1 e2 hpi
        by_cases hcan : canPut rs' x' y = true
        · rw [if_pos hcan] at hput
          have HC := Aside0.mk hcan
          have HPU := Aside0.mk hput
          clear hcan hput hsz
          go_wp2_with (first | (go_at_call 99; (with_reducible refine (l7_byte w0 _ g s p' rs' x' y true (by have := P9.out; omega) HB.out HI.out).mono ?_); rintro e w9 ⟨rfl, hi, hb⟩; rw [decide_eq_true E3.out, E2.out, Bool.and_true] at hi; have HI9 := Aside0.mk hi; have HB9 := Aside0.mk hb; obtain ⟨⟨_, _, _, _, c6⟩, _⟩ := hi.cells; clear hi hb) | (go_at_call 101; (with_reducible refine (l7_put_yes w0 _ g s (p' + 1) rs' x' y true (byV s p' : Int) (by have := HJ.out; have := HXY.out; omega) (by have := HXY.out; omega) HB9.out HI9.out HC.out).mono ?_); rintro e wa ⟨rfl, hi, hb⟩; have HIA := Aside0.mk hi; have HBA := Aside0.mk hb; clear hi hb))
          go_roundg kz
          case measure => omega
          case rel => exact ⟨i + 1, p' + 1, x' + 1, _, true, by go_num, ⟨by have := HJ.out; have := E3.out; omega⟩, ⟨fun _ => ⟨by have := HPI.out; omega, by have h := HPU.out; rw [← E1.out] at h; exact h⟩⟩, ⟨fun h => by cases h⟩, HIA, HBA⟩
        · rw [if_neg hcan] at hput
          have HC := Aside0.mk (show canPut rs' x' y = false by cases h : canPut rs' x' y with | true => exact absurd h hcan | false => rfl)
          have HNN := Aside0.mk (show R = none by
            have h := HR.out
            rw [← hput] at h
            split at h
            · exact h.symm
            · exact h.symm)
          clear hcan hput hsz
          go_wp2_with (first | (go_at_call 99; (with_reducible refine (l7_byte w0 _ g s p' rs' x' y true (by have := P9.out; omega) HB.out HI.out).mono ?_); rintro e w9 ⟨rfl, hi, hb⟩; rw [decide_eq_true E3.out, E2.out, Bool.and_true] at hi; have HI9 := Aside0.mk hi; have HB9 := Aside0.mk hb; obtain ⟨⟨_, _, _, _, c6⟩, _⟩ := hi.cells; clear hi hb) | (go_at_call 101; (with_reducible refine (l7_put_no w0 _ g s (p' + 1) rs' x' y true (byV s p' : Int) (by have := HJ.out; have := HXY.out; omega) (by have := HXY.out; omega) HB9.out HI9.out HC.out).mono ?_); rintro e wa ⟨rfl, hi, hb⟩; have HIA := Aside0.mk hi; have HBA := Aside0.mk hb; clear hi hb))
          go_roundg kz
          case measure => omega
          case rel => exact ⟨i + 1, p' + 1, x', rs', false, by go_num, ⟨by have := HJ.out; have := E3.out; omega⟩, ⟨fun h => by cases h⟩, ⟨fun _ => HNN.out⟩, HIA, HBA⟩
      · have e2 : nxt s p' = p' := by unfold nxt; rw [if_neg hsz]
        have E2 := Aside0.mk e2
        have E3 := Aside0.mk hsz
        have HNN := Aside0.mk (show R = none by
          have h := HR.out
          rw [if_pos (by have := HJ.out; omega)] at h
          exact h.symm)
        clear e2 hsz hput hpi
        go_wp2_with (go_at_call 99; (with_reducible refine (l7_byte w0 _ g s p' rs' x' y true (by have := P9.out; omega) HB.out HI.out).mono ?_); rintro e w9 ⟨rfl, hi, hb⟩; rw [decide_eq_false E3.out, E2.out, Bool.and_false] at hi; have HI9 := Aside0.mk hi; have HB9 := Aside0.mk hb; obtain ⟨⟨_, _, _, _, c6⟩, _⟩ := hi.cells; clear hi hb)
        go_roundg kz
        case measure => omega
        case rel => exact ⟨i + 1, p', x', rs', false, by go_num, ⟨by have := HJ.out; omega⟩, ⟨fun h => by cases h⟩, ⟨fun _ => HNN.out⟩, HI9, HB9⟩
end Go.Proofs.Ytgdbinifnhfcjaa.P
