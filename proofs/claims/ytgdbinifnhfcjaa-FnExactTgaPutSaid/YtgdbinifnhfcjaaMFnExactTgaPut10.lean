/- Texts of one law put together (wip/merge2.py). -/
import Derived.Test.YtgdbinifnhfcjaaMFnExactTgaPut1
import Derived.Test.YtgdbinifnhfcjaaMFnExactTgaPut6
import Derived.Test.YtgdbinifnhfcjaaMFnExactTgaPut2
import Derived.Test.YtgdbinifnhfcjaaMFnExactTgaPut4
import Derived.Test.YtgdbinifnhfcjaaMFnExactTgaPut9
import Derived.Test.YtgdbinifnhfcjaaMFnExactTgaPut7
namespace Go.Proofs.Ytgdbinifnhfcjaa.P
open Go.RowKit Go.Proofs.YtgdbinifnhfcjaaW.PrintWords Go.Proofs.YtgdbinifnhfcjaaW.PrintLast Go.Proofs.YtgdbinifnhfcjaaW.PrintMore
attribute [local go_sem] max2_int min2_int max_two min_two max_three min_three max_four min_four   -- for this text's walks alone
set_option linter.unusedVariables false
set_option linter.unusedSimpArgs false
/-! ### impl_TgaPut: function 40 -/
mutual
def impl_TgaPut.j0 : Nat → Bool → Int → Bool → Int → Int → Int → Int → List Int → List Int → Option (ByteArray)
 | 0, _, _, _, _, _, _, _, _, _ => none
 | k + 1, x1, x5, x23, x865000, x865001, x865002, x865003, x865004, x865005 => if x23 = true then (some (⟨#[]⟩ : ByteArray)) else (if (x865004.length : Int) > 0 then (impl_TgaPut.j1 k x1 x5 1 24 32 x865000 x865001 x865002 x865003 x865004 x865005) else (impl_TgaPut.j1 k x1 x5 0 0 32 x865000 x865001 x865002 x865003 x865004 x865005))
def impl_TgaPut.j1 : Nat → Bool → Int → Int → Int → Int → Int → Int → Int → Int → List Int → List Int → Option (ByteArray)
 | 0, _, _, _, _, _, _, _, _, _, _, _ => none
 | k + 1, x1, x5, x6, x7, x8, x865000, x865001, x865002, x865003, x865004, x865005 => if x865000 = 3 then (impl_TgaPut.j2 k x1 x5 x6 x7 (wrap64 (x8 + 8)) x865000 x865001 x865002 x865003 x865004 x865005) else (impl_TgaPut.j2 k x1 x5 x6 x7 x8 x865000 x865001 x865002 x865003 x865004 x865005)
def impl_TgaPut.j2 : Nat → Bool → Int → Int → Int → Int → Int → Int → Int → Int → List Int → List Int → Option (ByteArray)
 | 0, _, _, _, _, _, _, _, _, _, _, _ => none
 | k + 1, x1, x5, x6, x7, x8, x865000, x865001, x865002, x865003, x865004, x865005 => impl_TgaPut.l0 k x1 x5 x6 x7 x8 ([] : List Int) x865005 (x865005.length : Int) 0 x865000 x865001 x865002 x865003 x865004 x865005
def impl_TgaPut.l0 : Nat → Bool → Int → Int → Int → Int → List Int → List Int → Int → Int → Int → Int → Int → Int → List Int → List Int → Option (ByteArray)
 | 0, _, _, _, _, _, _, _, _, _, _, _, _, _, _, _ => none
 | k + 1, x1, x5, x6, x7, x8, x9, x34, x35, x36, x865000, x865001, x865002, x865003, x865004, x865005 => if x36 < x35 then (if 0 ≤ x36 then (if x36 < (x34.length : Int) then ((impl_rolled.f x865000 (rd x34 x36)).bind fun t868 => (if x9.length < 17592186044416 then (impl_TgaPut.l0 k x1 x5 x6 x7 x8 (x9 ++ [t868]) x34 x35 (wrap64 (x36 + 1)) x865000 x865001 x865002 x865003 x865004 x865005) else (none))) else (none)) else (none)) else ((impl_numbers.f k (wrap64 (Int.tdiv x865001 8)) x9).bind fun t872 => (if x1 = true then ((impl_RunPut.f k x9 (wrap64 (Int.tdiv x865001 8))).bind fun t873 => ((some (([0, (x6) % 256, (wrap64 (x5 + 8)) % 256] : List Int) : List Int)).bind fun y874 => ((impl_numbers.f k 2 (([0, (x865004.length : Int)] : List Int))).bind fun t880 => (if (strOfNums y874).size + t880.size ≤ 9223372036854775807 then ((some (([(x7) % 256, 0, 0, 0, 0] : List Int) : List Int)).bind fun y881 => (if ((strOfNums y874) ++ t880).size + (strOfNums y881).size ≤ 9223372036854775807 then ((impl_numbers.f k 2 (([x865002, x865003] : List Int))).bind fun t887 => (if (((strOfNums y874) ++ t880) ++ (strOfNums y881)).size + t887.size ≤ 9223372036854775807 then ((some (([(x865001) % 256, (x8) % 256] : List Int) : List Int)).bind fun y888 => (if ((((strOfNums y874) ++ t880) ++ (strOfNums y881)) ++ t887).size + (strOfNums y888).size ≤ 9223372036854775807 then ((impl_colorsPut.f k x865004 3 false).bind fun t891 => (if (((((strOfNums y874) ++ t880) ++ (strOfNums y881)) ++ t887) ++ (strOfNums y888)).size + t891.size ≤ 9223372036854775807 then (if ((((((strOfNums y874) ++ t880) ++ (strOfNums y881)) ++ t887) ++ (strOfNums y888)) ++ t891).size + t873.size ≤ 9223372036854775807 then (some (((((((strOfNums y874) ++ t880) ++ (strOfNums y881)) ++ t887) ++ (strOfNums y888)) ++ t891) ++ t873)) else (none)) else (none))) else (none))) else (none))) else (none))) else (none))))) else ((some (([0, (x6) % 256, (x5) % 256] : List Int) : List Int)).bind fun y892 => ((impl_numbers.f k 2 (([0, (x865004.length : Int)] : List Int))).bind fun t898 => (if (strOfNums y892).size + t898.size ≤ 9223372036854775807 then ((some (([(x7) % 256, 0, 0, 0, 0] : List Int) : List Int)).bind fun y899 => (if ((strOfNums y892) ++ t898).size + (strOfNums y899).size ≤ 9223372036854775807 then ((impl_numbers.f k 2 (([x865002, x865003] : List Int))).bind fun t905 => (if (((strOfNums y892) ++ t898) ++ (strOfNums y899)).size + t905.size ≤ 9223372036854775807 then ((some (([(x865001) % 256, (x8) % 256] : List Int) : List Int)).bind fun y906 => (if ((((strOfNums y892) ++ t898) ++ (strOfNums y899)) ++ t905).size + (strOfNums y906).size ≤ 9223372036854775807 then ((impl_colorsPut.f k x865004 3 false).bind fun t909 => (if (((((strOfNums y892) ++ t898) ++ (strOfNums y899)) ++ t905) ++ (strOfNums y906)).size + t909.size ≤ 9223372036854775807 then (if ((((((strOfNums y892) ++ t898) ++ (strOfNums y899)) ++ t905) ++ (strOfNums y906)) ++ t909).size + t872.size ≤ 9223372036854775807 then (some (((((((strOfNums y892) ++ t898) ++ (strOfNums y899)) ++ t905) ++ (strOfNums y906)) ++ t909) ++ t872)) else (none)) else (none))) else (none))) else (none))) else (none))) else (none))))))
end
def impl_TgaPut.f (k : Nat) (a0_0 : Int) (a0_1 : Int) (a0_2 : Int) (a0_3 : Int) (l0_4 : List Int) (l0_5 : List Int) (a1 : Bool) : Option (ByteArray) := (impl_tgaType.f k a0_0 a0_1 a0_2 a0_3 l0_4 l0_5).bind fun t865 => ((impl_ImageOk.f k a0_0 a0_1 a0_2 a0_3 l0_4 l0_5).bind fun t866 => (if t866 = true then (impl_TgaPut.j0 k a1 t865 (t865 == 0) a0_0 a0_1 a0_2 a0_3 l0_4 l0_5) else (impl_TgaPut.j0 k a1 t865 true a0_0 a0_1 a0_2 a0_3 l0_4 l0_5)))
theorem impl_TgaPut.mono_l : ∀ k, (∀ y0 y1 y2 y3 y4 y5 y6 y7 y8, LeO (impl_TgaPut.j0 k y0 y1 y2 y3 y4 y5 y6 y7 y8) (impl_TgaPut.j0 (k + 1) y0 y1 y2 y3 y4 y5 y6 y7 y8)) ∧ (∀ y0 y1 y2 y3 y4 y5 y6 y7 y8 y9 y10, LeO (impl_TgaPut.j1 k y0 y1 y2 y3 y4 y5 y6 y7 y8 y9 y10) (impl_TgaPut.j1 (k + 1) y0 y1 y2 y3 y4 y5 y6 y7 y8 y9 y10)) ∧ (∀ y0 y1 y2 y3 y4 y5 y6 y7 y8 y9 y10, LeO (impl_TgaPut.j2 k y0 y1 y2 y3 y4 y5 y6 y7 y8 y9 y10) (impl_TgaPut.j2 (k + 1) y0 y1 y2 y3 y4 y5 y6 y7 y8 y9 y10)) ∧ (∀ y0 y1 y2 y3 y4 y5 y6 y7 y8 y9 y10 y11 y12 y13 y14, LeO (impl_TgaPut.l0 k y0 y1 y2 y3 y4 y5 y6 y7 y8 y9 y10 y11 y12 y13 y14) (impl_TgaPut.l0 (k + 1) y0 y1 y2 y3 y4 y5 y6 y7 y8 y9 y10 y11 y12 y13 y14))
 | 0 => ⟨fun _ _ _ _ _ _ _ _ _ r h => by simp [impl_TgaPut.j0] at h, fun _ _ _ _ _ _ _ _ _ _ _ r h => by simp [impl_TgaPut.j1] at h, fun _ _ _ _ _ _ _ _ _ _ _ r h => by simp [impl_TgaPut.j2] at h, fun _ _ _ _ _ _ _ _ _ _ _ _ _ _ _ r h => by simp [impl_TgaPut.l0] at h⟩
 | k + 1 => by
  obtain ⟨ih0, ih1, ih2, ih3⟩ := impl_TgaPut.mono_l k
  refine ⟨?_, ?_, ?_, ?_⟩
  ·intro y0 y1 y2 y3 y4 y5 y6 y7 y8; unfold impl_TgaPut.j0
   repeat' first
   | (with_reducible exact ih0 _ _ _ _ _ _ _ _ _)
   | (with_reducible exact ih1 _ _ _ _ _ _ _ _ _ _ _)
   | (with_reducible exact ih2 _ _ _ _ _ _ _ _ _ _ _)
   | (with_reducible exact ih3 _ _ _ _ _ _ _ _ _ _ _ _ _ _ _)
   | (with_reducible exact impl_ImageOk.mono _ _ _ _ _ _ _)
   | (with_reducible exact impl_RunPut.mono _ _ _)
   | (with_reducible exact impl_colorsPut.mono _ _ _ _)
   | (with_reducible exact impl_numbers.mono _ _ _)
   | (with_reducible exact impl_tgaType.mono _ _ _ _ _ _ _)
   | (with_reducible exact LeO.refl _)
   | (with_reducible exact LeO.none _)
   | (with_reducible refine LeO.ite ?_ ?_)
   | (with_reducible refine LeO.bind ?_ (fun _ => ?_))
   | exact ih0 _ _ _ _ _ _ _ _ _
   | exact ih1 _ _ _ _ _ _ _ _ _ _ _
   | exact ih2 _ _ _ _ _ _ _ _ _ _ _
   | exact ih3 _ _ _ _ _ _ _ _ _ _ _ _ _ _ _
   | exact impl_ImageOk.mono _ _ _ _ _ _ _
   | exact impl_RunPut.mono _ _ _
   | exact impl_colorsPut.mono _ _ _ _
   | exact impl_numbers.mono _ _ _
   | exact impl_tgaType.mono _ _ _ _ _ _ _
   | exact LeO.none _
   | refine LeO.ite ?_ ?_
   | refine LeO.bind ?_ (fun _ => ?_)
  ·intro y0 y1 y2 y3 y4 y5 y6 y7 y8 y9 y10; unfold impl_TgaPut.j1
   repeat' first
   | (with_reducible exact ih0 _ _ _ _ _ _ _ _ _)
   | (with_reducible exact ih1 _ _ _ _ _ _ _ _ _ _ _)
   | (with_reducible exact ih2 _ _ _ _ _ _ _ _ _ _ _)
   | (with_reducible exact ih3 _ _ _ _ _ _ _ _ _ _ _ _ _ _ _)
   | (with_reducible exact impl_ImageOk.mono _ _ _ _ _ _ _)
   | (with_reducible exact impl_RunPut.mono _ _ _)
   | (with_reducible exact impl_colorsPut.mono _ _ _ _)
   | (with_reducible exact impl_numbers.mono _ _ _)
   | (with_reducible exact impl_tgaType.mono _ _ _ _ _ _ _)
   | (with_reducible exact LeO.refl _)
   | (with_reducible exact LeO.none _)
   | (with_reducible refine LeO.ite ?_ ?_)
   | (with_reducible refine LeO.bind ?_ (fun _ => ?_))
   | exact ih0 _ _ _ _ _ _ _ _ _
   | exact ih1 _ _ _ _ _ _ _ _ _ _ _
   | exact ih2 _ _ _ _ _ _ _ _ _ _ _
   | exact ih3 _ _ _ _ _ _ _ _ _ _ _ _ _ _ _
   | exact impl_ImageOk.mono _ _ _ _ _ _ _
   | exact impl_RunPut.mono _ _ _
   | exact impl_colorsPut.mono _ _ _ _
   | exact impl_numbers.mono _ _ _
   | exact impl_tgaType.mono _ _ _ _ _ _ _
   | exact LeO.none _
   | refine LeO.ite ?_ ?_
   | refine LeO.bind ?_ (fun _ => ?_)
  ·intro y0 y1 y2 y3 y4 y5 y6 y7 y8 y9 y10; unfold impl_TgaPut.j2
   repeat' first
   | (with_reducible exact ih0 _ _ _ _ _ _ _ _ _)
   | (with_reducible exact ih1 _ _ _ _ _ _ _ _ _ _ _)
   | (with_reducible exact ih2 _ _ _ _ _ _ _ _ _ _ _)
   | (with_reducible exact ih3 _ _ _ _ _ _ _ _ _ _ _ _ _ _ _)
   | (with_reducible exact impl_ImageOk.mono _ _ _ _ _ _ _)
   | (with_reducible exact impl_RunPut.mono _ _ _)
   | (with_reducible exact impl_colorsPut.mono _ _ _ _)
   | (with_reducible exact impl_numbers.mono _ _ _)
   | (with_reducible exact impl_tgaType.mono _ _ _ _ _ _ _)
   | (with_reducible exact LeO.refl _)
   | (with_reducible exact LeO.none _)
   | (with_reducible refine LeO.ite ?_ ?_)
   | (with_reducible refine LeO.bind ?_ (fun _ => ?_))
   | exact ih0 _ _ _ _ _ _ _ _ _
   | exact ih1 _ _ _ _ _ _ _ _ _ _ _
   | exact ih2 _ _ _ _ _ _ _ _ _ _ _
   | exact ih3 _ _ _ _ _ _ _ _ _ _ _ _ _ _ _
   | exact impl_ImageOk.mono _ _ _ _ _ _ _
   | exact impl_RunPut.mono _ _ _
   | exact impl_colorsPut.mono _ _ _ _
   | exact impl_numbers.mono _ _ _
   | exact impl_tgaType.mono _ _ _ _ _ _ _
   | exact LeO.none _
   | refine LeO.ite ?_ ?_
   | refine LeO.bind ?_ (fun _ => ?_)
  ·intro y0 y1 y2 y3 y4 y5 y6 y7 y8 y9 y10 y11 y12 y13 y14; unfold impl_TgaPut.l0
   repeat' first
   | (with_reducible exact ih0 _ _ _ _ _ _ _ _ _)
   | (with_reducible exact ih1 _ _ _ _ _ _ _ _ _ _ _)
   | (with_reducible exact ih2 _ _ _ _ _ _ _ _ _ _ _)
   | (with_reducible exact ih3 _ _ _ _ _ _ _ _ _ _ _ _ _ _ _)
   | (with_reducible exact impl_ImageOk.mono _ _ _ _ _ _ _)
   | (with_reducible exact impl_RunPut.mono _ _ _)
   | (with_reducible exact impl_colorsPut.mono _ _ _ _)
   | (with_reducible exact impl_numbers.mono _ _ _)
   | (with_reducible exact impl_tgaType.mono _ _ _ _ _ _ _)
   | (with_reducible exact LeO.refl _)
   | (with_reducible exact LeO.none _)
   | (with_reducible refine LeO.ite ?_ ?_)
   | (with_reducible refine LeO.bind ?_ (fun _ => ?_))
   | exact ih0 _ _ _ _ _ _ _ _ _
   | exact ih1 _ _ _ _ _ _ _ _ _ _ _
   | exact ih2 _ _ _ _ _ _ _ _ _ _ _
   | exact ih3 _ _ _ _ _ _ _ _ _ _ _ _ _ _ _
   | exact impl_ImageOk.mono _ _ _ _ _ _ _
   | exact impl_RunPut.mono _ _ _
   | exact impl_colorsPut.mono _ _ _ _
   | exact impl_numbers.mono _ _ _
   | exact impl_tgaType.mono _ _ _ _ _ _ _
   | exact LeO.none _
   | refine LeO.ite ?_ ?_
   | refine LeO.bind ?_ (fun _ => ?_)
theorem impl_TgaPut.mono : ∀ a0 a1 a2 a3 a4 a5 a6 k, LeO (impl_TgaPut.f k a0 a1 a2 a3 a4 a5 a6) (impl_TgaPut.f (k + 1) a0 a1 a2 a3 a4 a5 a6) := by
 intro a0 a1 a2 a3 a4 a5 a6 k; obtain ⟨ih0, ih1, ih2, ih3⟩ := impl_TgaPut.mono_l k; unfold impl_TgaPut.f
 repeat' first
  | (with_reducible exact ih0 _ _ _ _ _ _ _ _ _)
  | (with_reducible exact ih1 _ _ _ _ _ _ _ _ _ _ _)
  | (with_reducible exact ih2 _ _ _ _ _ _ _ _ _ _ _)
  | (with_reducible exact ih3 _ _ _ _ _ _ _ _ _ _ _ _ _ _ _)
  | (with_reducible exact impl_ImageOk.mono _ _ _ _ _ _ _)
  | (with_reducible exact impl_RunPut.mono _ _ _)
  | (with_reducible exact impl_colorsPut.mono _ _ _ _)
  | (with_reducible exact impl_numbers.mono _ _ _)
  | (with_reducible exact impl_tgaType.mono _ _ _ _ _ _ _)
  | (with_reducible exact LeO.refl _)
  | (with_reducible exact LeO.none _)
  | (with_reducible refine LeO.ite ?_ ?_)
  | (with_reducible refine LeO.bind ?_ (fun _ => ?_))
  | exact ih0 _ _ _ _ _ _ _ _ _
  | exact ih1 _ _ _ _ _ _ _ _ _ _ _
  | exact ih2 _ _ _ _ _ _ _ _ _ _ _
  | exact ih3 _ _ _ _ _ _ _ _ _ _ _ _ _ _ _
  | exact impl_ImageOk.mono _ _ _ _ _ _ _
  | exact impl_RunPut.mono _ _ _
  | exact impl_colorsPut.mono _ _ _ _
  | exact impl_numbers.mono _ _ _
  | exact impl_tgaType.mono _ _ _ _ _ _ _
  | exact LeO.none _
  | refine LeO.ite ?_ ?_
  | refine LeO.bind ?_ (fun _ => ?_)
def impl_TgaPut.T20 : Bool × List (List Nat × List Nat) := (true, [([], []), ([0], [0]), ([], []), ([2], [2]), ([1, 3], [1, 3]), ([4], [4]), ([], []), ([6], [6]), ([7], [7]), ([8], [8]), ([9], [9]), ([5, 10], [5, 10]), ([], []), ([12], [12]), ([13], [13]), ([14], [14]), ([11, 15], [11, 15]), ([16, 10, 0, 1, 2, 3, 4, 5, 6, 7, 8, 9, 10, 11, 12, 13, 14, 15, 16], [16])])
def impl_TgaPut.B20 : List Nat := [0, 1, 0, 4, 15, 31, 0, 64, 192, 448, 960, 2047, 0, 4096, 12288, 28672, 65535, 131071]
theorem impl_TgaPut.tab20 : rtab .any (opsOf Try.f40 20) = impl_TgaPut.T20 := by kernel_rfl
theorem impl_TgaPut.bits20 : waitsOk impl_TgaPut.T20.2 impl_TgaPut.B20 = true := by kernel_rfl
def impl_TgaPut.T21 : Bool × List (List Nat × List Nat) := (true, [([], []), ([], []), ([1], [1]), ([], []), ([3], [3]), ([2, 4], [2, 4]), ([5], [5]), ([0, 6], [0, 6]), ([], []), ([8], [8]), ([9], [9]), ([], []), ([11], [11]), ([10, 12], [10, 12]), ([13], [13]), ([7, 14], [7, 14]), ([], []), ([16], [16]), ([17, 6], [17]), ([15, 18], [15, 18]), ([], []), ([19, 20], [19, 20]), ([21, 18, 0, 1, 2, 3, 4, 5, 6, 7, 8, 9, 10, 11, 12, 13, 14, 15, 16, 17, 18, 19, 20, 21], [21])])
def impl_TgaPut.B21 : List Nat := [0, 0, 2, 0, 8, 30, 62, 127, 0, 256, 768, 0, 2048, 7936, 16128, 32767, 0, 65536, 196734, 524287, 0, 2097151, 4194303]
theorem impl_TgaPut.tab21 : rtab .any (opsOf Try.f40 21) = impl_TgaPut.T21 := by kernel_rfl
theorem impl_TgaPut.bits21 : waitsOk impl_TgaPut.T21.2 impl_TgaPut.B21 = true := by kernel_rfl
set_option maxHeartbeats 8000000 in
set_option maxRecDepth 100000 in
theorem impl_TgaPut.calls (k : Nat) (a0_0 : Int) (a0_1 : Int) (a0_2 : Int) (a0_3 : Int) (A0_4 : Option Addr) (c0_4 : Nat) (l0_4 : List Int) (A0_5 : Option Addr) (c0_5 : Nat) (l0_5 : List Int) (a1 : Bool) (r : ByteArray) (w : World) (hr0_4 : Kd.C (Kd.int .i64) w A0_4 l0_4.length l0_4) (hc0_4 : l0_4.length ≤ c0_4) (hr0_5 : Kd.C (Kd.int .i64) w A0_5 l0_5.length l0_5) (hc0_5 : l0_5.length ≤ c0_5) (h : impl_TgaPut.f k a0_0 a0_1 a0_2 a0_3 l0_4 l0_5 a1 = some r) :
 Calls Try.prog 40 #[.agg #[.int .i64 a0_0, .int .i64 a0_1, .int .i64 a0_2, .int .i64 a0_3, .slice A0_4 l0_4.length c0_4, .slice A0_5 l0_5.length c0_5], .bool a1] w fun e w' => e = .returned (.string r) ∧ Below w.heap.size w w' := by
 have hu40 := Try.underlying40; have HR0_4 := Aside0.mk hr0_4; have HC0_4 := Aside0.mk hc0_4; clear hr0_4 hc0_4; have HR0_5 := Aside0.mk hr0_5; have HC0_5 := Aside0.mk hc0_5; clear hr0_5 hc0_5; have HB := Aside0.mk (Below.refl w.heap.size w); have H : ((impl_tgaType.f k a0_0 a0_1 a0_2 a0_3 l0_4 l0_5).bind fun t865 => ((impl_ImageOk.f k a0_0 a0_1 a0_2 a0_3 l0_4 l0_5).bind fun t866 => (if t866 = true then (impl_TgaPut.j0 k a1 t865 (t865 == 0) a0_0 a0_1 a0_2 a0_3 l0_4 l0_5) else (impl_TgaPut.j0 k a1 t865 true a0_0 a0_1 a0_2 a0_3 l0_4 l0_5)))) = some r := h; clear h; replace H := Option.bind_eq_some_iff.mp H; obtain ⟨t865, A30, H⟩ := H; have A3 := Aside0.mk A30; clear A30; have HC4 := Aside0.mk H; clear H; go_enter Try.func40, Try.ntmps40
 go_upto_region 2 with (first | ((with_reducible refine gate_dst (N := 2) rfl ?_); refine box_event ?hg (N := 2) ?hd (cs := #[.int .i64 a0_0, .int .i64 a0_1, .int .i64 a0_2, .int .i64 a0_3, .slice A0_4 l0_4.length c0_4, .slice A0_5 l0_5.length c0_5]) (t := 40) ?hr ?_; (case hd => rfl); (case hg => rfl); (case hr => first | (go_simp; done) | (go_simp; rfl)); intro gb864 hg w5 hbox hb; have n0_ := Sq.s_ HB hb; have n1_ := Aside0.mk (hbox); have n2_ := Sq.g_ HB hg; have n3_ := Sq.g_ HB hg; clear HB; have HB := n0_; have BK864 := n1_; have GW864 := n2_; have GE864 := n3_; have GO864 := Sq.o_ GE864; clear n0_ n1_ n2_ n3_; clear hb hbox hg; obtain ⟨hcz6_0, hcz6_1, hcz6_2, hcz6_3, hcz6_4, hcz6_5, hfz6_0, hfz6_1, hfz6_2, hfz6_3, hfz6_4, hfz6_5⟩ := Sq.cell6 BK864) | ((with_reducible refine gate_callee (f := 87) rfl ?_); refine goesL_ (some 16) rfl rfl Try.func87 (by kernel_rfl) rfl #[.agg #[.int .i64 a0_0, .int .i64 a0_1, .int .i64 a0_2, .int .i64 a0_3, .slice A0_4 l0_4.length c0_4, .slice A0_5 l0_5.length c0_5]] rfl (by (try simp only [Sq.mp]); first | done | rfl | (simp only [List.length_drop, List.length_take]; rfl)) ?_; (with_reducible refine (impl_tgaType.calls k a0_0 a0_1 a0_2 a0_3 _ _ l0_4 _ _ l0_5 t865 _ ?side1 ?side2 ?side3 ?side4 A3.out).mono ?_); (case side1 => exact Sq.i_ HR0_4 HB); (case side2 => exact HC0_4.out); (case side3 => exact Sq.i_ HR0_5 HB); (case side4 => exact HC0_5.out); rintro e w7 ⟨rfl, hb⟩; refine ⟨_, rfl, ?_⟩; have n0_ := Sq.b_ BK864 hb; have n1_ := Sq.us HB hb; clear BK864; clear HB; have BK864 := n0_; have HB := n1_; clear n0_ n1_; (try clear hb); (try clear hb2); (try clear hk); (try clear hi)))
 (try simp only [Act.put, List.setIfInBounds_toArray, List.set_cons_zero, List.set_cons_succ])
 go_cut [23] (fun v23 wc => ∃ (kq : Nat) (x23_3 : Bool), v23 = .bool x23_3 ∧ Aside0 (impl_TgaPut.j0 kq a1 t865 x23_3 a0_0 a0_1 a0_2 a0_3 l0_4 l0_5 = some r) ∧ Aside0 (kq ≤ k) ∧ Aside0 (wc.heap[gb864]? = some (.cells #[.int .i64 a0_0, .int .i64 a0_1, .int .i64 a0_2, .int .i64 a0_3, (.slice A0_4 l0_4.length c0_4), (.slice A0_5 l0_5.length c0_5)] 40 (0, 0))) ∧ Aside0 (Below w.heap.size w wc))
 case first =>
  have H := HC4.out; clear HC4; replace H := Option.bind_eq_some_iff.mp H; obtain ⟨t866, A80, H⟩ := H; have A8 := Aside0.mk A80; clear A80
  by_cases c9 : t866 = true
  ·subst c9; replace H := Sq.t H; have H' := Aside0.mk H; clear H; obtain ⟨hcz10_0, hcz10_1, hcz10_2, hcz10_3, hcz10_4, hcz10_5, hfz10_0, hfz10_1, hfz10_2, hfz10_3, hfz10_4, hfz10_5⟩ := Sq.cell6 BK864; go_wp2_with (first | ((with_reducible refine gate_callee (f := 78) rfl ?_); refine goesL_ (some 18) rfl rfl Try.func78 (by kernel_rfl) rfl #[.agg #[.int .i64 a0_0, .int .i64 a0_1, .int .i64 a0_2, .int .i64 a0_3, .slice A0_4 l0_4.length c0_4, .slice A0_5 l0_5.length c0_5]] rfl (by (try simp only [Sq.mp]); first | done | rfl | (simp only [List.length_drop, List.length_take]; rfl)) ?_; (with_reducible refine (impl_ImageOk.calls k a0_0 a0_1 a0_2 a0_3 _ _ l0_4 _ _ l0_5 true _ ?side1 ?side2 ?side3 ?side4 A8.out).mono ?_); (case side1 => exact Sq.i_ HR0_4 HB); (case side2 => exact HC0_4.out); (case side3 => exact Sq.i_ HR0_5 HB); (case side4 => exact HC0_5.out); rintro e w11 ⟨rfl, hb⟩; refine ⟨_, rfl, ?_⟩; have n0_ := Sq.b_ BK864 hb; have n1_ := Sq.us HB hb; clear BK864; clear HB; have BK864 := n0_; have HB := n1_; clear n0_ n1_; (try clear hb); (try clear hb2); (try clear hk); (try clear hi)))
   go_meet
   case rel => exact ⟨_, ((t865 == 0)), (by first | rfl | (simp; done) | (simp [*]; done) | (simp [wrap64]; done)), H', ⟨by first | omega | exact Nat.le_refl _⟩, Sq.kk_ BK864, ⟨(Sq.ut HB)⟩⟩
  ·replace c9 := Bool.eq_false_iff.mpr c9; subst c9; replace H := Sq.f H; have H' := Aside0.mk H; clear H; obtain ⟨hcz12_0, hcz12_1, hcz12_2, hcz12_3, hcz12_4, hcz12_5, hfz12_0, hfz12_1, hfz12_2, hfz12_3, hfz12_4, hfz12_5⟩ := Sq.cell6 BK864; go_wp2_with (first | ((with_reducible refine gate_callee (f := 78) rfl ?_); refine goesL_ (some 18) rfl rfl Try.func78 (by kernel_rfl) rfl #[.agg #[.int .i64 a0_0, .int .i64 a0_1, .int .i64 a0_2, .int .i64 a0_3, .slice A0_4 l0_4.length c0_4, .slice A0_5 l0_5.length c0_5]] rfl (by (try simp only [Sq.mp]); first | done | rfl | (simp only [List.length_drop, List.length_take]; rfl)) ?_; (with_reducible refine (impl_ImageOk.calls k a0_0 a0_1 a0_2 a0_3 _ _ l0_4 _ _ l0_5 false _ ?side1 ?side2 ?side3 ?side4 A8.out).mono ?_); (case side1 => exact Sq.i_ HR0_4 HB); (case side2 => exact HC0_4.out); (case side3 => exact Sq.i_ HR0_5 HB); (case side4 => exact HC0_5.out); rintro e w13 ⟨rfl, hb⟩; refine ⟨_, rfl, ?_⟩; have n0_ := Sq.b_ BK864 hb; have n1_ := Sq.us HB hb; clear BK864; clear HB; have BK864 := n0_; have HB := n1_; clear n0_ n1_; (try clear hb); (try clear hb2); (try clear hk); (try clear hi)))
   go_meet
   case rel => exact ⟨_, (true), (by first | rfl | (simp; done) | (simp [*]; done) | (simp [wrap64]; done)), H', ⟨by first | omega | exact Nat.le_refl _⟩, Sq.kk_ BK864, ⟨(Sq.ut HB)⟩⟩
 case rest =>
  clear HC4; try clear p2
  try clear c4
  try clear c7
  try clear c8
  try clear c9
  try clear hcz10_0 hcz10_1 hcz10_2 hcz10_3 hcz10_4 hcz10_5 hcz12_0 hcz12_1 hcz12_2 hcz12_3 hcz12_4 hcz12_5 hcz6_0 hcz6_1 hcz6_2 hcz6_3 hcz6_4 hcz6_5 hfz10_0 hfz10_1 hfz10_2 hfz10_3 hfz10_4 hfz10_5 hfz12_0 hfz12_1 hfz12_2 hfz12_3 hfz12_4 hfz12_5 hfz6_0 hfz6_1 hfz6_2 hfz6_3 hfz6_4 hfz6_5
  obtain ⟨kq, x23_3, rfl, HA, HJ3, BK864, HB⟩ := hcut; cases kq with
  | zero => exact absurd HA.out (by simp [impl_TgaPut.j0])
  | succ kj3 =>
   have H := HA.out; clear HA; simp only [impl_TgaPut.j0] at H
   by_cases c14 : x23_3 = true
   ·subst c14; replace H := Sq.t H; obtain rfl := Option.some.inj H; go_wp2
    go_ret
    exact ⟨by first | rfl | (simp [errW_none, errW_some] <;> rfl) | (simp [*, errW_none, errW_some] <;> rfl), (Sq.ut HB)⟩
   ·replace c14 := Bool.eq_false_iff.mpr c14; subst c14; replace H := Sq.f H; have HC15 := Aside0.mk H; clear H; obtain ⟨hcz16_0, hcz16_1, hcz16_2, hcz16_3, hcz16_4, hcz16_5, hfz16_0, hfz16_1, hfz16_2, hfz16_3, hfz16_4, hfz16_5⟩ := Sq.cell6 BK864; go_upto_if 27 with (fail)
    go_cut [6, 7] (fun v6 v7 wc => ∃ (kq : Nat) (x6_14 : Int) (x7_14 : Int), v6 = .int .i64 x6_14 ∧ v7 = .int .i64 x7_14 ∧ Aside0 (impl_TgaPut.j1 kq a1 t865 x6_14 x7_14 32 a0_0 a0_1 a0_2 a0_3 l0_4 l0_5 = some r) ∧ Aside0 (kq ≤ kj3) ∧ Aside0 (wc.heap[gb864]? = some (.cells #[.int .i64 a0_0, .int .i64 a0_1, .int .i64 a0_2, .int .i64 a0_3, (.slice A0_4 l0_4.length c0_4), (.slice A0_5 l0_5.length c0_5)] 40 (0, 0))) ∧ Aside0 (Below w.heap.size w wc))
    case first =>
     have H := HC15.out; clear HC15
     by_cases c17 : (l0_4.length : Int) > 0
     ·rw [if_pos c17] at H; have c17b0 : decide (0 < (l0_4.length : Int)) = true := decide_eq_true c17; have c17b1 : decide (0 < l0_4.length) = true := decide_eq_true (by omega); clear c17; (first | rw [c17b0] | (simp only [i64_w, i32_w]; rw [c17b0]) | rw [c17b1] | skip)
      have H' := Aside0.mk H; clear H; go_wp2
      go_meet
      case rel => exact ⟨_, (1), (24), (by first | rfl | (simp; done) | (simp [*]; done) | (simp [wrap64]; done)), (by first | rfl | (simp; done) | (simp [*]; done) | (simp [wrap64]; done)), H', ⟨by have := HJ3.out; first | omega | exact Nat.le_refl _⟩, Sq.kk_ BK864, ⟨(Sq.ut HB)⟩⟩
     ·rw [if_neg c17] at H; have c17b0 : decide (0 < (l0_4.length : Int)) = false := decide_eq_false c17; have c17b1 : decide (0 < l0_4.length) = false := decide_eq_false (by omega); clear c17; (first | rw [c17b0] | (simp only [i64_w, i32_w]; rw [c17b0]) | rw [c17b1] | skip)
      have H' := Aside0.mk H; clear H; go_wp2
      go_meet
      case rel => exact ⟨_, (0), (0), (by first | rfl | (simp; done) | (simp [*]; done) | (simp [wrap64]; done)), (by first | rfl | (simp; done) | (simp [*]; done) | (simp [wrap64]; done)), H', ⟨by have := HJ3.out; first | omega | exact Nat.le_refl _⟩, Sq.kk_ BK864, ⟨(Sq.ut HB)⟩⟩
    case rest =>
     clear HC15; try clear c1
     try clear p2
     try clear c4
     try clear c7
     try clear c8
     try clear c9
     try clear c14
     try clear c17
     try clear c17b0
     try clear c17b1
     try clear hcz10_0 hcz10_1 hcz10_2 hcz10_3 hcz10_4 hcz10_5 hcz12_0 hcz12_1 hcz12_2 hcz12_3 hcz12_4 hcz12_5 hcz16_0 hcz16_1 hcz16_2 hcz16_3 hcz16_4 hcz16_5 hcz6_0 hcz6_1 hcz6_2 hcz6_3 hcz6_4 hcz6_5 hfz10_0 hfz10_1 hfz10_2 hfz10_3 hfz10_4 hfz10_5 hfz12_0 hfz12_1 hfz12_2 hfz12_3 hfz12_4 hfz12_5 hfz16_0 hfz16_1 hfz16_2 hfz16_3 hfz16_4 hfz16_5 hfz6_0 hfz6_1 hfz6_2 hfz6_3 hfz6_4 hfz6_5
     try clear p2
     obtain ⟨kq, x6_14, x7_14, rfl, rfl, HA, HJ14, BK864, HB⟩ := hcut; cases kq with
     | zero => exact absurd HA.out (by simp [impl_TgaPut.j1])
     | succ kj14 =>
      have H := HA.out; clear HA; simp only [impl_TgaPut.j1] at H; have HC18 := Aside0.mk H; clear H; obtain ⟨hcz19_0, hcz19_1, hcz19_2, hcz19_3, hcz19_4, hcz19_5, hfz19_0, hfz19_1, hfz19_2, hfz19_3, hfz19_4, hfz19_5⟩ := Sq.cell6 BK864; go_upto_if 30 with (fail)
      go_cut [8] (fun v8 wc => ∃ (kq : Nat) (x8_17 : Int), v8 = .int .i64 x8_17 ∧ Aside0 (impl_TgaPut.j2 kq a1 t865 x6_14 x7_14 x8_17 a0_0 a0_1 a0_2 a0_3 l0_4 l0_5 = some r) ∧ Aside0 (kq ≤ kj14) ∧ Aside0 (wc.heap[gb864]? = some (.cells #[.int .i64 a0_0, .int .i64 a0_1, .int .i64 a0_2, .int .i64 a0_3, (.slice A0_4 l0_4.length c0_4), (.slice A0_5 l0_5.length c0_5)] 40 (0, 0))) ∧ Aside0 (Below w.heap.size w wc))
      case first =>
       have H := HC18.out; clear HC18
       by_cases c20 : a0_0 = 3
       ·rw [if_pos c20] at H; have c20b0 : (a0_0 == 3) = true := beq_iff_eq.mpr c20; have c20b1 : (a0_0 != 3) = false := bne_eq_false_iff_eq.mpr c20; clear c20; (first | rw [c20b0] | (simp only [i64_w, i32_w]; rw [c20b0]) | rw [c20b1] | skip)
        have H' := Aside0.mk H; clear H; go_wp2
        go_meet
        case rel => exact ⟨_, (wrap64 (32 + 8)), (by first | rfl | (simp; done) | (simp [*]; done) | (simp [wrap64]; done)), H', ⟨by have := HJ3.out; have := HJ14.out; first | omega | exact Nat.le_refl _⟩, Sq.kk_ BK864, ⟨(Sq.ut HB)⟩⟩
       ·rw [if_neg c20] at H; have c20b0 : (a0_0 == 3) = false := beq_eq_false_iff_ne.mpr c20; have c20b1 : (a0_0 != 3) = true := bne_iff_ne.mpr c20; (first | rw [c20b0] | (simp only [i64_w, i32_w]; rw [c20b0]) | rw [c20b1] | skip)
        have H' := Aside0.mk H; clear H; go_wp2
        go_meet
        case rel => exact ⟨_, (32), (by first | rfl | (simp; done) | (simp [*]; done) | (simp [wrap64]; done)), H', ⟨by have := HJ3.out; have := HJ14.out; first | omega | exact Nat.le_refl _⟩, Sq.kk_ BK864, ⟨(Sq.ut HB)⟩⟩
      case rest =>
       clear HC18; try clear c1
       try clear c2
       try clear p2
       try clear c4
       try clear p6
       try clear c7
       try clear c8
       try clear c9
       try clear c14
       try clear c17
       try clear c17b0
       try clear c17b1
       try clear c20
       try clear c20b0
       try clear c20b1
       try clear hcz10_0 hcz10_1 hcz10_2 hcz10_3 hcz10_4 hcz10_5 hcz12_0 hcz12_1 hcz12_2 hcz12_3 hcz12_4 hcz12_5 hcz16_0 hcz16_1 hcz16_2 hcz16_3 hcz16_4 hcz16_5 hcz19_0 hcz19_1 hcz19_2 hcz19_3 hcz19_4 hcz19_5 hcz6_0 hcz6_1 hcz6_2 hcz6_3 hcz6_4 hcz6_5 hfz10_0 hfz10_1 hfz10_2 hfz10_3 hfz10_4 hfz10_5 hfz12_0 hfz12_1 hfz12_2 hfz12_3 hfz12_4 hfz12_5 hfz16_0 hfz16_1 hfz16_2 hfz16_3 hfz16_4 hfz16_5 hfz19_0 hfz19_1 hfz19_2 hfz19_3 hfz19_4 hfz19_5 hfz6_0 hfz6_1 hfz6_2 hfz6_3 hfz6_4 hfz6_5
       try clear p2
       obtain ⟨kq, x8_17, rfl, HA, HJ17, BK864, HB⟩ := hcut; cases kq with
       | zero => exact absurd HA.out (by simp [impl_TgaPut.j2])
       | succ kj17 =>
        have H := HA.out; clear HA; simp only [impl_TgaPut.j2] at H; have H' := Aside0.mk H; clear H; obtain ⟨hcz21_0, hcz21_1, hcz21_2, hcz21_3, hcz21_4, hcz21_5, hfz21_0, hfz21_1, hfz21_2, hfz21_3, hfz21_4, hfz21_5⟩ := Sq.cell6 BK864; go_wp2
        go_loopg [9, 36] kj17 (fun kq v9 v36 w' => ∃ (x9_4 : List Int) (x36_4 : Int), v36 = .int .i64 x36_4 ∧ Aside0 (impl_TgaPut.l0 kq a1 t865 x6_14 x7_14 x8_17 x9_4 l0_5 (l0_5.length : Int) x36_4 a0_0 a0_1 a0_2 a0_3 l0_4 l0_5 = some r) ∧ Aside0 (kq ≤ kj17) ∧ Aside0 (Kd.R (Kd.int .i64) 3 w' w.heap.size (fun _ => True) v9 x9_4) ∧ Aside0 (w'.heap[gb864]? = some (.cells #[.int .i64 a0_0, .int .i64 a0_1, .int .i64 a0_2, .int .i64 a0_3, (.slice A0_4 l0_4.length c0_4), (.slice A0_5 l0_5.length c0_5)] 40 (0, 0))) ∧ Aside0 (Below w.heap.size w w'))
        case atStart => exact ⟨(([] : List Int)), (0), (by first | rfl | (simp; done) | (simp [*]; done) | (simp [wrap64]; done)), H', ⟨Nat.le_refl _⟩, ⟨by first | exact Kd.R_nil _ _ _ _ _ | exact Kd.N_nil _ _ _ _ _ | exact Kd.V_nil _ _ _ _ _ | exact Kd.Q_nil _ _ _ _ _ | exact Kd.S_nil _ _ _ _ _⟩, Sq.kk_ BK864, ⟨(Sq.ut HB)⟩⟩
        case round =>
         clear H'; try clear c1
         try clear c2
         try clear p2
         try clear c4
         try clear p6
         try clear c7
         try clear c8
         try clear c9
         try clear c14
         try clear c17
         try clear c17b0
         try clear c17b1
         try clear c20
         try clear c20b0
         try clear c20b1
         try clear hcz10_0 hcz10_1 hcz10_2 hcz10_3 hcz10_4 hcz10_5 hcz12_0 hcz12_1 hcz12_2 hcz12_3 hcz12_4 hcz12_5 hcz16_0 hcz16_1 hcz16_2 hcz16_3 hcz16_4 hcz16_5 hcz19_0 hcz19_1 hcz19_2 hcz19_3 hcz19_4 hcz19_5 hcz21_0 hcz21_1 hcz21_2 hcz21_3 hcz21_4 hcz21_5 hcz6_0 hcz6_1 hcz6_2 hcz6_3 hcz6_4 hcz6_5 hfz10_0 hfz10_1 hfz10_2 hfz10_3 hfz10_4 hfz10_5 hfz12_0 hfz12_1 hfz12_2 hfz12_3 hfz12_4 hfz12_5 hfz16_0 hfz16_1 hfz16_2 hfz16_3 hfz16_4 hfz16_5 hfz19_0 hfz19_1 hfz19_2 hfz19_3 hfz19_4 hfz19_5 hfz21_0 hfz21_1 hfz21_2 hfz21_3 hfz21_4 hfz21_5 hfz6_0 hfz6_1 hfz6_2 hfz6_3 hfz6_4 hfz6_5
         try clear p2
         try clear p6
         obtain ⟨x9_4, x36_4, rfl, HA, HK4, HO_9, BK864, HB⟩ := hrel; cases gk with
         | zero => exact absurd HA.out (by simp [impl_TgaPut.l0])
         | succ k4 =>
          have H := HA.out; clear HA; simp only [impl_TgaPut.l0] at H
          by_cases c22 : x36_4 < (l0_5.length : Int)
          ·rw [if_pos c22] at H; have c22b0 : decide (x36_4 < (l0_5.length : Int)) = true := decide_eq_true c22; clear c22
           by_cases c23 : 0 ≤ x36_4
           ·rw [if_pos c23] at H; have c23b0 : decide (0 ≤ x36_4) = true := decide_eq_true c23; clear c23
            by_cases c24 : x36_4 < (l0_5.length : Int)
            ·rw [if_pos c24] at H; have c24b0 : decide (x36_4 < (l0_5.length : Int)) = true := decide_eq_true c24; clear c24; replace H := Option.bind_eq_some_iff.mp H; obtain ⟨t868, A250, H⟩ := H; have A25 := Aside0.mk A250; clear A250
             by_cases c26 : x9_4.length < 17592186044416
             ·rw [if_pos c26] at H; have LMc26 := Aside0.mk c26; clear c26; obtain ⟨y869, hy869⟩ : ∃ y_ : List Int, y_ = (x9_4 ++ [t868]) := ⟨_, rfl⟩; rw [← hy869] at H; have Ny869 := Aside0.mk hy869; clear hy869; have H' := Aside0.mk H; clear H; have p867 : 0 ≤ (x36_4 : Int) := of_decide_eq_true (by first | (with_reducible assumption) | assumption); have q867 : x36_4 < (l0_5.length : Int) := of_decide_eq_true (by first | (with_reducible assumption) | assumption); obtain ⟨ad867, e867, hx867_0⟩ := Kd.at_int HR0_5.out x36_4 p867 q867; cases e867; replace hx867_0 := (HB.out.cell (World.block_lt_of_cell? w _ hx867_0)).trans hx867_0; replace p867 := eq_true p867; replace q867 := eq_true q867; obtain ⟨hcz27_0, hcz27_1, hcz27_2, hcz27_3, hcz27_4, hcz27_5, hfz27_0, hfz27_1, hfz27_2, hfz27_3, hfz27_4, hfz27_5⟩ := Sq.cell6 BK864
              go_wp2_with (first | ((with_reducible refine gate_callee (f := 90) rfl ?_); refine goesL_ (some 44) rfl rfl Try.func90 (by kernel_rfl) rfl #[.int .i64 a0_0, .int .i64 (rd l0_5 x36_4)] rfl (by (try simp only [Sq.mp]); first | done | rfl | (simp only [List.length_drop, List.length_take]; rfl)) ?_; (with_reducible refine (impl_rolled.calls a0_0 (rd l0_5 x36_4) t868 _ A25.out).mono ?_); rintro e w' ⟨rfl, ⟨nd, rfl⟩⟩; refine ⟨_, rfl, ?_⟩) | ((with_reducible refine gate_builtin (b := .append) (xs := #[.tmp 40, .tmp 45]) rfl ?_); at_builtin; refine Kd.R_append (Kd.int .i64) (w0 := w) w.heap.size rfl (.tmp 40) (.tmp 45) 31 3 (.int .i64 0) 8 rfl Try.underlying31 info3 rfl (by decide) (by omega) u9 x9_4 t868 [.int .i64 t868] (fun _ => True) (fun _ => False) rfl rfl ?aP (fun _ hk => hk.elim) ?aF ?aO ?aB ?aS ?aL ?_; (case aP => exact rfl); (case aB => exact (Sq.ut HB)); (case aF => exact (fun _ _ => trivial)); (case aO => exact (by (with_reducible repeat (first | apply Kd.R_alloc | apply Kd.R_drewN | apply Kd.R_drew)); exact HO_9.out)); (case aS => exact (below_size (Sq.ut HB))); (case aL => have := LMc26.out; omega); intro v870 w28 ho hb hg hat; rw [← Ny869.out] at ho; have n0_ := Aside0.mk (blk_grown (g := gb864) (o := .cells #[.int .i64 a0_0, .int .i64 a0_1, .int .i64 a0_2, .int .i64 a0_3, .slice A0_4 l0_4.length c0_4, .slice (some ad867) l0_5.length c0_5] 40 (0, 0)) (by (with_reducible repeat (first | refine blk_drewN ?_ _ | refine blk_drew ?_ | refine blk_alloc ?_ _)); exact BK864.out) hg (Kd.R_ne HO_9.out BK864.out (by decide))); have n1_ := Aside0.mk (hb); have n2_ := Aside0.mk (ho); clear BK864; clear HB; clear HO_9; have BK864 := n0_; have HB := n1_; have HO871 := n2_; clear n0_ n1_ n2_; clear ho hb hg hat))
              go_roundg k4
              case measure => have := HJ3.out; have := HJ14.out; have := HJ17.out; have := HK4.out; omega
              case rel => exact ⟨(y869), (wrap64 (x36_4 + 1)), (by first | rfl | (simp; done) | (simp [*]; done) | (simp [wrap64]; done)), H', ⟨by have := HJ3.out; have := HJ14.out; have := HJ17.out; have := HK4.out; omega⟩, Sq.nn_ HO871, Sq.kk_ BK864, ⟨(Sq.ut HB)⟩⟩
             ·rw [if_neg c26] at H; exact absurd H (by simp)
            ·rw [if_neg c24] at H; exact absurd H (by simp)
           ·rw [if_neg c23] at H; exact absurd H (by simp)
          ·rw [if_neg c22] at H; have c22b0 : decide (x36_4 < (l0_5.length : Int)) = false := decide_eq_false c22; clear c22; replace H := Option.bind_eq_some_iff.mp H; obtain ⟨t872, A290, H⟩ := H; have A29 := Aside0.mk A290; clear A290
           by_cases c30 : a1 = true
           ·subst c30; replace H := Sq.t H; replace H := Option.bind_eq_some_iff.mp H; obtain ⟨t873, A310, H⟩ := H; have A31 := Aside0.mk A310; clear A310; obtain ⟨y874, hy874⟩ : ∃ y_ : List Int, y_ = (([0, (x6_14) % 256, (wrap64 (t865 + 8)) % 256] : List Int)) := ⟨_, rfl⟩; replace H := Sq.y hy874 H; have Ny874 := Aside0.mk hy874; clear hy874; obtain ⟨y877, hy877⟩ : ∃ y_ : List Int, y_ = (([0, (l0_4.length : Int)] : List Int)) := ⟨_, rfl⟩; rw [← hy877] at H; have Ny877 := Aside0.mk hy877; clear hy877; replace H := Option.bind_eq_some_iff.mp H; obtain ⟨t880, A320, H⟩ := H; have A32 := Aside0.mk A320; clear A320
            by_cases c33 : (strOfNums y874).size + t880.size ≤ 9223372036854775807
            ·rw [if_pos c33] at H; have c33b0 := eq_true c33; have c33b1 : decide ((strOfNums y874).size + t880.size ≤ 9223372036854775807) = true := decide_eq_true c33; try have c33b2 : (9223372036854775807 < (strOfNums y874).size + t880.size) = False := eq_false (Nat.not_lt.2 c33)
             obtain ⟨y881, hy881⟩ : ∃ y_ : List Int, y_ = (([(x7_14) % 256, 0, 0, 0, 0] : List Int)) := ⟨_, rfl⟩; replace H := Sq.y hy881 H; have Ny881 := Aside0.mk hy881; clear hy881
             by_cases c34 : ((strOfNums y874) ++ t880).size + (strOfNums y881).size ≤ 9223372036854775807
             ·rw [if_pos c34] at H; have c34b0 := eq_true c34; have c34b1 : decide (((strOfNums y874) ++ t880).size + (strOfNums y881).size ≤ 9223372036854775807) = true := decide_eq_true c34; try have c34b2 : (9223372036854775807 < ((strOfNums y874) ++ t880).size + (strOfNums y881).size) = False := eq_false (Nat.not_lt.2 c34)
              try have c34b3 := c34b2
              try simp only [ByteArray.size_append] at c34b3
              obtain ⟨y884, hy884⟩ : ∃ y_ : List Int, y_ = (([a0_2, a0_3] : List Int)) := ⟨_, rfl⟩; rw [← hy884] at H; have Ny884 := Aside0.mk hy884; clear hy884; replace H := Option.bind_eq_some_iff.mp H; obtain ⟨t887, A350, H⟩ := H; have A35 := Aside0.mk A350; clear A350
              by_cases c36 : (((strOfNums y874) ++ t880) ++ (strOfNums y881)).size + t887.size ≤ 9223372036854775807
              ·rw [if_pos c36] at H; have c36b0 := eq_true c36; have c36b1 : decide ((((strOfNums y874) ++ t880) ++ (strOfNums y881)).size + t887.size ≤ 9223372036854775807) = true := decide_eq_true c36; try have c36b2 : (9223372036854775807 < (((strOfNums y874) ++ t880) ++ (strOfNums y881)).size + t887.size) = False := eq_false (Nat.not_lt.2 c36)
               try have c36b3 := c36b2
               try simp only [ByteArray.size_append] at c36b3
               obtain ⟨y888, hy888⟩ : ∃ y_ : List Int, y_ = (([(a0_1) % 256, (x8_17) % 256] : List Int)) := ⟨_, rfl⟩; replace H := Sq.y hy888 H; have Ny888 := Aside0.mk hy888; clear hy888
               by_cases c37 : ((((strOfNums y874) ++ t880) ++ (strOfNums y881)) ++ t887).size + (strOfNums y888).size ≤ 9223372036854775807
               ·rw [if_pos c37] at H; have c37b0 := eq_true c37; have c37b1 : decide (((((strOfNums y874) ++ t880) ++ (strOfNums y881)) ++ t887).size + (strOfNums y888).size ≤ 9223372036854775807) = true := decide_eq_true c37; try have c37b2 : (9223372036854775807 < ((((strOfNums y874) ++ t880) ++ (strOfNums y881)) ++ t887).size + (strOfNums y888).size) = False := eq_false (Nat.not_lt.2 c37)
                try have c37b3 := c37b2
                try simp only [ByteArray.size_append] at c37b3
                replace H := Option.bind_eq_some_iff.mp H; obtain ⟨t891, A380, H⟩ := H; have A38 := Aside0.mk A380; clear A380
                by_cases c39 : (((((strOfNums y874) ++ t880) ++ (strOfNums y881)) ++ t887) ++ (strOfNums y888)).size + t891.size ≤ 9223372036854775807
                ·rw [if_pos c39] at H; have c39b0 := eq_true c39; have c39b1 : decide ((((((strOfNums y874) ++ t880) ++ (strOfNums y881)) ++ t887) ++ (strOfNums y888)).size + t891.size ≤ 9223372036854775807) = true := decide_eq_true c39; try have c39b2 : (9223372036854775807 < (((((strOfNums y874) ++ t880) ++ (strOfNums y881)) ++ t887) ++ (strOfNums y888)).size + t891.size) = False := eq_false (Nat.not_lt.2 c39)
                 try have c39b3 := c39b2
                 try simp only [ByteArray.size_append] at c39b3
                 by_cases c40 : ((((((strOfNums y874) ++ t880) ++ (strOfNums y881)) ++ t887) ++ (strOfNums y888)) ++ t891).size + t873.size ≤ 9223372036854775807
                 ·rw [if_pos c40] at H; have c40b0 := eq_true c40; have c40b1 : decide (((((((strOfNums y874) ++ t880) ++ (strOfNums y881)) ++ t887) ++ (strOfNums y888)) ++ t891).size + t873.size ≤ 9223372036854775807) = true := decide_eq_true c40; try have c40b2 : (9223372036854775807 < ((((((strOfNums y874) ++ t880) ++ (strOfNums y881)) ++ t887) ++ (strOfNums y888)) ++ t891).size + t873.size) = False := eq_false (Nat.not_lt.2 c40)
                  try have c40b3 := c40b2
                  try simp only [ByteArray.size_append] at c40b3
                  obtain rfl := Option.some.inj H; obtain ⟨hcz41_0, hcz41_1, hcz41_2, hcz41_3, hcz41_4, hcz41_5, hfz41_0, hfz41_1, hfz41_2, hfz41_3, hfz41_4, hfz41_5⟩ := Sq.cell6 BK864; obtain ⟨Ao42, co42, eo42⟩ := Kd.R_slice HO_9.out; subst eo42; try go_wp2_with (first | ((with_reducible refine gate_callee (f := 63) rfl ?_); refine goesL_ (some 53) rfl rfl Try.func63 (by kernel_rfl) rfl #[.int .i64 (wrap64 (Int.tdiv a0_1 8)), .slice Ao42 x9_4.length co42] rfl (by (try simp only [Sq.mp]); first | done | rfl | (simp only [List.length_drop, List.length_take]; rfl)) ?_; (with_reducible refine (impl_numbers.calls k4 (wrap64 (Int.tdiv a0_1 8)) _ _ x9_4 t872 _ ?side1 ?side2 A29.out).mono ?_); (case side1 => exact Sq.c_ HO_9); (case side2 => exact (Kd.R_reads' HO_9.out).2.1); rintro e w43 ⟨rfl, hb⟩; refine ⟨_, rfl, ?_⟩; have n0_ := Sq.r_ HO_9 hb; have n1_ := Sq.b_ BK864 hb; have n2_ := Sq.us HB hb; clear HO_9; clear BK864; clear HB; have HO_9 := n0_; have BK864 := n1_; have HB := n2_; clear n0_ n1_ n2_; (try clear hb); (try clear hb2); (try clear hk); (try clear hi)) | ((with_reducible refine gate_callee (f := 91) rfl ?_); refine goesL_ (some 59) rfl rfl Try.func91 (by kernel_rfl) rfl #[.slice Ao42 x9_4.length co42, .int .i64 (wrap64 (Int.tdiv a0_1 8))] rfl (by (try simp only [Sq.mp]); first | done | rfl | (simp only [List.length_drop, List.length_take]; rfl)) ?_; (with_reducible refine (impl_RunPut.calls k4 (fun k_ => some k_ = (.slice Ao42 x9_4.length co42 : Value).ownBlock) _ _ x9_4 (wrap64 (Int.tdiv a0_1 8)) t873 _ ?side1 A31.out).mono ?_); (case side1 => exact Kd.R_V (Kd.R_tight rfl (Kd.R_types (HO_9.out) BK864.out (by decide)))); rintro e w44 ⟨rfl, hb⟩; refine ⟨_, rfl, ?_⟩; have n0_ := Sq.r_ HO_9 hb; have n1_ := Sq.b_ BK864 hb; have n2_ := Sq.us HB hb; clear HO_9; clear BK864; clear HB; have HO_9 := n0_; have BK864 := n1_; have HB := n2_; clear n0_ n1_ n2_; (try clear hb); (try clear hb2); (try clear hk); (try clear hi)))
                  have n0_ := Aside0.mk (Kd.R_drew HO_9.out); have n1_ := Aside0.mk (blk_drew BK864.out); have n2_ := Aside0.mk (below_drew1 HB.out); clear HO_9; clear BK864; clear HB; have HO_9 := n0_; have BK864 := n1_; have HB := n2_; clear n0_ n1_ n2_; refine start_ (n := 18) (S := fun w' => Sq.C6 w' gb864 (.int .i64 a0_0) (.int .i64 a0_1) (.int .i64 a0_2) (.int .i64 a0_3) (.slice A0_4 l0_4.length c0_4) (.slice A0_5 l0_5.length c0_5)) (ds := []) #[false, false, false, false, false, false, false, false, false, false, false, false, false, false, false, false, false, false] (by kernel_rfl) rfl rfl (Sq.c6 BK864) (fun hHeld => ?_); refine with_tabW impl_TgaPut.tab20 impl_TgaPut.bits20 (fun HT_ HW_ => ?_)
                  generalize w44.drew = w45 at HO_9 BK864 HB hHeld ⊢; refine Sq.p_ 0 60 ?_ (Sq.b 18 1) rfl rfl HT_ (by kernel_rfl) (fun _ _ _ h => h) (Or.inl ⟨by rfl, ?_⟩) ?_ ?_ ?_
                  rotate_left
                  ·intro w'; go_simp; with_reducible rfl
                  rotate_left
                  ·simp only [Sq.put]; rfl
                  refine Sq.p_ 1 61 ?_ (Sq.b 18 3) rfl rfl HT_ (by kernel_rfl) (fun _ _ _ h => h) (Or.inl ⟨by rfl, ?_⟩) ?_ ?_ ?_
                  rotate_left
                  ·intro w'; go_simp; with_reducible rfl
                  rotate_left
                  ·simp only [Sq.put]; rfl
                  refine Sq.p_ 2 62 ?_ (Sq.b 18 7) rfl rfl HT_ (by kernel_rfl) (fun _ _ _ h => h) (Or.inl ⟨by rfl, ?_⟩) ?_ ?_ ?_
                  rotate_left
                  ·intro w'; go_simp; with_reducible rfl
                  rotate_left
                  ·simp only [Sq.put]; rfl
                  refine Sq.p_ 3 63 ?_ (Sq.b 18 15) rfl rfl HT_ (by kernel_rfl) (fun _ _ _ h => h) (Or.inl ⟨by rfl, ?_⟩) ?_ ?_ ?_
                  rotate_left
                  ·intro w'; go_simp; with_reducible rfl
                  rotate_left
                  ·simp only [Sq.put]; rfl
                  refine Sq.p_ 6 66 ?_ (Sq.b 18 79) rfl rfl HT_ (by kernel_rfl) (fun _ _ _ h => h) (Or.inl ⟨by rfl, ?_⟩) ?_ ?_ ?_
                  rotate_left
                  ·intro w'; go_simp; with_reducible rfl
                  rotate_left
                  ·simp only [Sq.put]; rfl
                  refine Sq.p_ 12 72 ?_ (Sq.b 18 4175) rfl rfl HT_ (by kernel_rfl) (fun _ _ _ h => h) (Or.inl ⟨by rfl, ?_⟩) ?_ ?_ ?_
                  rotate_left
                  ·intro w'; go_simp; with_reducible rfl
                  rotate_left
                  ·simp only [Sq.put]; rfl
                  refine Sq.p_ 13 73 ?_ (Sq.b 18 12367) rfl rfl HT_ (by kernel_rfl) (fun _ _ _ h => h) (Or.inl ⟨by rfl, ?_⟩) ?_ ?_ ?_
                  rotate_left
                  ·intro w'; go_simp; with_reducible rfl
                  rotate_left
                  ·simp only [Sq.put]; rfl
                  refine Sq.k 7 67 ?_ (Sq.b 18 12495) rfl rfl HT_ HW_ (by kernel_rfl) (fun _ _ _ h => h) (Or.inl ⟨by rfl, ?_⟩) hHeld ?_ ?_ ?_
                  rotate_left
                  ·rintro w' ⟨s0, s1, s2, s3, s4, s5⟩; go_simp; with_reducible rfl
                  rotate_left
                  ·simp only [Sq.put]; rfl
                  refine Sq.p_ 8 68 ?_ (Sq.b 18 12751) rfl rfl HT_ (by kernel_rfl) (fun _ _ _ h => h) (Or.inl ⟨by rfl, ?_⟩) ?_ ?_ ?_
                  rotate_left
                  ·intro w'; go_simp; with_reducible rfl
                  rotate_left
                  ·simp only [Sq.put]; rfl
                  refine Reg.size_ (fun N0_ hN0_ => ?_); refine Reg.mid_ #[true, true, true, true, true, true, true, true, true, true, true, true, true, true, true, true, false, false] [0, 1, 0, 4, 15, 31, 0, 64, 192, 448, 960, 2047, 0, 4096, 12288, 28672, 65535, 131071] [(64, 4), (65, 5), (69, 9), (70, 10), (71, 11), (74, 14), (75, 15)] [4, 5, 9, 10, 11, 14, 15] [4, 9, 14] (Reg.sel [(4, fun v_ w' => (Kd.R (Kd.int .u8) 5 w' w.heap.size (fun _ => True) v_ y874) ∧ ∀ b_, (v_ : Value).ownBlock = some b_ → N0_ ≤ b_), (5, fun v_ _ => v_ = .string (strOfNums y874)), (9, fun v_ w' => (Kd.R (Kd.int .i64) 3 w' w.heap.size (fun _ => True) v_ y877) ∧ ∀ b_, (v_ : Value).ownBlock = some b_ → N0_ ≤ b_), (10, fun v_ _ => v_ = .string t880), (11, fun v_ _ => v_ = .string ((strOfNums y874) ++ t880)), (14, fun v_ w' => (Kd.R (Kd.int .u8) 5 w' w.heap.size (fun _ => True) v_ y881) ∧ ∀ b_, (v_ : Value).ownBlock = some b_ → N0_ ≤ b_), (15, fun v_ _ => v_ = .string (strOfNums y881))]) (fun w' => (Sq.C6 w' gb864 (.int .i64 a0_0) (.int .i64 a0_1) (.int .i64 a0_2) (.int .i64 a0_3) (.slice A0_4 l0_4.length c0_4) (.slice A0_5 l0_5.length c0_5)) ∧ (N0_ ≤ w'.heap.size) ∧ (Kd.R (Kd.int .i64) 3 w' w.heap.size (fun k_ => (True) ∧ k_ < N0_) (.slice Ao42 x9_4.length co42) x9_4) ∧ (w'.heap[gb864]? = some (.cells #[.int .i64 a0_0, .int .i64 a0_1, .int .i64 a0_2, .int .i64 a0_3, .slice A0_4 l0_4.length c0_4, .slice A0_5 l0_5.length c0_5] 40 (0, 0))) ∧ (Below w.heap.size w w')) 2 (by kernel_rfl) (by kernel_rfl) (by kernel_rfl) (by kernel_rfl) rfl ?hD49_ ?hG49_ ?hS49_ ?hW49_ ?hO49_ ?hE49_
                  case hD49_ => exact Reg.sel_st ⟨fun _ _ _ h_ hb_ => ⟨Kd.R_below h_.1 hb_, h_.2⟩, fun _ _ _ h_ _ => h_, fun _ _ _ h_ hb_ => ⟨Kd.R_below h_.1 hb_, h_.2⟩, fun _ _ _ h_ _ => h_, fun _ _ _ h_ _ => h_, fun _ _ _ h_ hb_ => ⟨Kd.R_below h_.1 hb_, h_.2⟩, fun _ _ _ h_ _ => h_, trivial⟩
                  case hG49_ =>
                   rintro w1_ w2_ ⟨⟨c0_, c1_, c2_, c3_, c4_, c5_⟩, hN_, b3_, b4_, b5_⟩ hb_; exact ⟨⟨Reg.cell_step c0_ hb_, Reg.cell_step c1_ hb_, Reg.cell_step c2_ hb_, Reg.cell_step c3_ hb_, Reg.cell_step c4_ hb_, Reg.cell_step c5_ hb_⟩, Nat.le_trans hN_ (below_size hb_), (by first | exact blk_below b3_ hb_ | exact below_step b3_ hb_ | exact Kd.R_below b3_ hb_ | exact Kd.C_below b3_ hb_), (by first | exact blk_below b4_ hb_ | exact below_step b4_ hb_ | exact Kd.R_below b4_ hb_ | exact Kd.C_below b4_ hb_), (by first | exact blk_below b5_ hb_ | exact below_step b5_ hb_ | exact Kd.R_below b5_ hb_ | exact Kd.C_below b5_ hb_)⟩
                  case hS49_ => exact fun _ h_ => h_.1
                  case hW49_ => exact ⟨hHeld, Nat.le_of_eq hN0_, (Kd.R_mono (Kd.R_bound (by (with_reducible repeat (first | refine blk_drewN ?_ _ | refine blk_drew ?_ | refine blk_alloc ?_ _ | apply below_alloc | apply pw_below_drewN | apply below_drew1 | apply Kd.R_alloc | apply Kd.R_drewN | apply Kd.R_drew)); exact HO_9.out)) (fun _ hk_ => ⟨trivial, by rw [hN0_]; exact hk_.2.2.1⟩)), (by (with_reducible repeat (first | refine blk_drewN ?_ _ | refine blk_drew ?_ | refine blk_alloc ?_ _ | apply below_alloc | apply pw_below_drewN | apply below_drew1 | apply Kd.R_alloc | apply Kd.R_drewN | apply Kd.R_drew)); exact BK864.out), (by (with_reducible repeat (first | refine blk_drewN ?_ _ | refine blk_drew ?_ | refine blk_alloc ?_ _ | apply below_alloc | apply pw_below_drewN | apply below_drew1 | apply Kd.R_alloc | apply Kd.R_drewN | apply Kd.R_drew)); exact HB.out)⟩
                  case hO49_ =>
                   refine ⟨?_, ?_, ?_, ?_, ?_, ?_, ?_, trivial⟩
                   ·intro o_ ho_; simp only [Sq.ge] at ho_; subst ho_; intro u_ w1_ hG_ hP_ K hK; have hN_ := hG_.2.1; clear HO_9; clear BK864; clear HB; have HO_9 := Aside0.mk hG_.2.2.1; have BK864 := Aside0.mk hG_.2.2.2.1; have HB := Aside0.mk hG_.2.2.2.2; clear hG_; clear hP_; refine ⟨?_⟩; generalize hfr_ : Reg.frame _ _ u_ = fr_ at hK ⊢; simp only [Sq.frm] at hfr_; subst hfr_; refine Kd.R_lit_step (Kd.int .u8) _ 5 ?hg (N := 64) ?hd (xs := ([0, (x6_14) % 256, (wrap64 (t865 + 8)) % 256] : List Int)) (inner := [.int .u8 0, .int .u8 ((x6_14) % 256), .int .u8 ((wrap64 (t865 + 8)) % 256)]) (ok := fun _ => True) (okp := fun _ => True) ?hr ?hp (fun _ hk => hk) trivial (Below.refl _ _) (Nat.le_refl _) (by simp) ?_; (case hd => rfl); (case hg => rfl); (case hr => first | (go_simp; done) | (go_simp; rfl)); (case hp => exact (Reps.one (show Kd.M (Kd.int .u8) _ _ _ 0 [.int .u8 0] from rfl) (Reps.one (show Kd.M (Kd.int .u8) _ _ _ ((x6_14) % 256) [.int .u8 ((x6_14) % 256)] from rfl) (Reps.one (show Kd.M (Kd.int .u8) _ _ _ ((wrap64 (t865 + 8)) % 256) [.int .u8 ((wrap64 (t865 + 8)) % 256)] from rfl) (Reps.none _ _)))))
                    intro v875 w46 ho47 hb hg_ hnew_; (first | rw [← Ny874.out] at ho47 | (simp only [Int.reduceToNat] at ho47; rw [← Ny874.out] at ho47))
                    exact hK _ _ ⟨Kd.R_mono (Kd.R_lower ho47 (below_size HB.out)) (fun _ _ => trivial), fun b_ h_ => Nat.le_trans hN_ (Kd.R_base ho47 b_ h_)⟩ hb (fun _ b_ h_ => ⟨Kd.R_base ho47 b_ h_, Kd.R_lt ho47 b_ h_⟩)
                   ·intro o_ ho_; simp only [Sq.ge] at ho_; subst ho_; intro u_ w1_ hG_ hP_ K hK; have hN_ := hG_.2.1; clear HO_9; clear BK864; clear HB; have HO_9 := Aside0.mk hG_.2.2.1; have BK864 := Aside0.mk hG_.2.2.2.1; have HB := Aside0.mk hG_.2.2.2.2; clear hG_; obtain ⟨v875, hv4_⟩ : ∃ v_, v_ = u_ 4 := ⟨_, rfl⟩; have e4_ := hP_ 4 (by decide) (by rfl); have e4_ : (Kd.R (Kd.int .u8) 5 w1_ w.heap.size (fun _ => True) v875 y874) ∧ ∀ b_, (v875 : Value).ownBlock = some b_ → N0_ ≤ b_ := by rw [hv4_]; exact e4_
                    have HO876 := Aside0.mk e4_.1; clear e4_; clear hP_; refine ⟨?_⟩; generalize hfr_ : Reg.frame _ _ u_ = fr_ at hK ⊢; simp only [Sq.frm, ← hv4_] at hfr_; subst hfr_; clear hv4_; have hcv49 := own_string (P := Try.prog) Try.underlying28 Try.underlying5 Try.underlying9 (Kd.own_of_R HO876.out); refine value_ (w1 := ?_) (v := ?_) (by rfl) rfl ?_ ?_
                    rotate_left 2
                    ·go_simp
                     constructor
                     ·rfl
                     ·rfl
                    exact hK _ _ (by first | rfl | (simp only [i64_w, i32_w]; rfl)) (Below.refl _ _) (fun h_ => by cases h_)
                   ·intro o_ ho_; simp only [Sq.ge] at ho_; subst ho_; intro u_ w1_ hG_ hP_ K hK; have hN_ := hG_.2.1; clear HO_9; clear BK864; clear HB; have HO_9 := Aside0.mk hG_.2.2.1; have BK864 := Aside0.mk hG_.2.2.2.1; have HB := Aside0.mk hG_.2.2.2.2; clear hG_; clear hP_; refine ⟨?_⟩; generalize hfr_ : Reg.frame _ _ u_ = fr_ at hK ⊢; simp only [Sq.frm] at hfr_; subst hfr_; refine Kd.R_lit_step (Kd.int .i64) _ 3 ?hg (N := 69) ?hd (xs := ([0, (l0_4.length : Int)] : List Int)) (inner := [.int .i64 0, .int .i64 (l0_4.length : Int)]) (ok := fun _ => True) (okp := fun _ => True) ?hr ?hp (fun _ hk => hk) trivial (Below.refl _ _) (Nat.le_refl _) (by simp) ?_; (case hd => rfl); (case hg => rfl); (case hr => first | (go_simp; done) | (go_simp; rfl)); (case hp => exact (Reps.one (show Kd.M (Kd.int .i64) _ _ _ 0 [.int .i64 0] from rfl) (Reps.one (show Kd.M (Kd.int .i64) _ _ _ (l0_4.length : Int) [.int .i64 (l0_4.length : Int)] from rfl) (Reps.none _ _))))
                    intro v878 w46 ho47 hb hg_ hnew_; (first | rw [← Ny877.out] at ho47 | (simp only [Int.reduceToNat] at ho47; rw [← Ny877.out] at ho47))
                    exact hK _ _ ⟨Kd.R_mono (Kd.R_lower ho47 (below_size HB.out)) (fun _ _ => trivial), fun b_ h_ => Nat.le_trans hN_ (Kd.R_base ho47 b_ h_)⟩ hb (fun _ b_ h_ => ⟨Kd.R_base ho47 b_ h_, Kd.R_lt ho47 b_ h_⟩)
                   ·intro o_ ho_; simp only [Sq.ge] at ho_; subst ho_; intro u_ w1_ hG_ hP_ K hK; have hN_ := hG_.2.1; clear HO_9; clear BK864; clear HB; have HO_9 := Aside0.mk hG_.2.2.1; have BK864 := Aside0.mk hG_.2.2.2.1; have HB := Aside0.mk hG_.2.2.2.2; clear hG_; obtain ⟨v878, hv9_⟩ : ∃ v_, v_ = u_ 9 := ⟨_, rfl⟩; have e9_ := hP_ 9 (by decide) (by rfl); have e9_ : (Kd.R (Kd.int .i64) 3 w1_ w.heap.size (fun _ => True) v878 y877) ∧ ∀ b_, (v878 : Value).ownBlock = some b_ → N0_ ≤ b_ := by rw [hv9_]; exact e9_
                    have HO879 := Aside0.mk e9_.1; clear e9_; obtain ⟨Ao49, co49, hs_⟩ := Kd.R_slice HO879.out; subst hs_; clear hP_; refine ⟨?_⟩; generalize hfr_ : Reg.frame _ _ u_ = fr_ at hK ⊢; simp only [Sq.frm, ← hv9_] at hfr_; subst hfr_; clear hv9_; refine goes_ Try.func63 (by kernel_rfl) rfl #[.int .i64 2, .slice Ao49 y877.length co49] (by rfl) rfl rfl (by (try simp only [Sq.mp]); first | done | rfl | (simp only [List.length_drop, List.length_take]; rfl)) ?_; with_reducible refine (impl_numbers.calls k4 2 _ _ y877 t880 _ ?side1 ?side2 A32.out).mono ?_
                    (case side1 => exact Sq.c_ HO879)
                    (case side2 => exact (Kd.R_reads' HO879.out).2.1)
                    rintro e w50 ⟨rfl, hb⟩; refine ⟨_, rfl, ?_⟩; exact hK _ _ rfl hb (fun h_ => by cases h_)
                   ·intro o_ ho_; simp only [Sq.ge] at ho_; subst ho_; intro u_ w1_ hG_ hP_ K hK; have hN_ := hG_.2.1; clear HO_9; clear BK864; clear HB; have HO_9 := Aside0.mk hG_.2.2.1; have BK864 := Aside0.mk hG_.2.2.2.1; have HB := Aside0.mk hG_.2.2.2.2; clear hG_; obtain ⟨v875, hv4_⟩ : ∃ v_, v_ = u_ 4 := ⟨_, rfl⟩; have e4_ := hP_ 4 (by decide) (by rfl); have e4_ : (Kd.R (Kd.int .u8) 5 w1_ w.heap.size (fun _ => True) v875 y874) ∧ ∀ b_, (v875 : Value).ownBlock = some b_ → N0_ ≤ b_ := by rw [hv4_]; exact e4_
                    have e5_ : u_ 5 = .string (strOfNums y874) := hP_ 5 (by decide) (by rfl); obtain ⟨v878, hv9_⟩ : ∃ v_, v_ = u_ 9 := ⟨_, rfl⟩; have e9_ := hP_ 9 (by decide) (by rfl); have e9_ : (Kd.R (Kd.int .i64) 3 w1_ w.heap.size (fun _ => True) v878 y877) ∧ ∀ b_, (v878 : Value).ownBlock = some b_ → N0_ ≤ b_ := by rw [hv9_]; exact e9_
                    have e10_ : u_ 10 = .string t880 := hP_ 10 (by decide) (by rfl); have HO876 := Aside0.mk e4_.1; clear e4_; have HO879 := Aside0.mk e9_.1; clear e9_; clear hP_; refine ⟨?_⟩; generalize hfr_ : Reg.frame _ _ u_ = fr_ at hK ⊢; simp only [Sq.frm, ← hv4_, e5_, ← hv9_, e10_] at hfr_; subst hfr_; clear hv4_ e5_ hv9_ e10_; refine value_ (w1 := ?_) (v := ?_) (by rfl) rfl ?_ ?_
                    rotate_left 2
                    ·go_simp
                     constructor
                     ·rfl
                     ·rfl
                    exact hK _ _ (by first | rfl | (simp only [i64_w, i32_w]; rfl)) (Below.refl _ _) (fun h_ => by cases h_)
                   ·intro o_ ho_; simp only [Sq.ge] at ho_; subst ho_; intro u_ w1_ hG_ hP_ K hK; have hN_ := hG_.2.1; clear HO_9; clear BK864; clear HB; have HO_9 := Aside0.mk hG_.2.2.1; have BK864 := Aside0.mk hG_.2.2.2.1; have HB := Aside0.mk hG_.2.2.2.2; clear hG_; clear hP_; refine ⟨?_⟩; generalize hfr_ : Reg.frame _ _ u_ = fr_ at hK ⊢; simp only [Sq.frm] at hfr_; subst hfr_; refine Kd.R_lit_step (Kd.int .u8) _ 5 ?hg (N := 74) ?hd (xs := ([(x7_14) % 256, 0, 0, 0, 0] : List Int)) (inner := [.int .u8 ((x7_14) % 256), .int .u8 0, .int .u8 0, .int .u8 0, .int .u8 0]) (ok := fun _ => True) (okp := fun _ => True) ?hr ?hp (fun _ hk => hk) trivial (Below.refl _ _) (Nat.le_refl _) (by simp) ?_; (case hd => rfl); (case hg => rfl); (case hr => first | (go_simp; done) | (go_simp; rfl)); (case hp => exact (Reps.one (show Kd.M (Kd.int .u8) _ _ _ ((x7_14) % 256) [.int .u8 ((x7_14) % 256)] from rfl) (Reps.one (show Kd.M (Kd.int .u8) _ _ _ 0 [.int .u8 0] from rfl) (Reps.one (show Kd.M (Kd.int .u8) _ _ _ 0 [.int .u8 0] from rfl) (Reps.one (show Kd.M (Kd.int .u8) _ _ _ 0 [.int .u8 0] from rfl) (Reps.one (show Kd.M (Kd.int .u8) _ _ _ 0 [.int .u8 0] from rfl) (Reps.none _ _)))))))
                    intro v882 w46 ho47 hb hg_ hnew_; (first | rw [← Ny881.out] at ho47 | (simp only [Int.reduceToNat] at ho47; rw [← Ny881.out] at ho47))
                    exact hK _ _ ⟨Kd.R_mono (Kd.R_lower ho47 (below_size HB.out)) (fun _ _ => trivial), fun b_ h_ => Nat.le_trans hN_ (Kd.R_base ho47 b_ h_)⟩ hb (fun _ b_ h_ => ⟨Kd.R_base ho47 b_ h_, Kd.R_lt ho47 b_ h_⟩)
                   ·intro o_ ho_; simp only [Sq.ge] at ho_; subst ho_; intro u_ w1_ hG_ hP_ K hK; have hN_ := hG_.2.1; clear HO_9; clear BK864; clear HB; have HO_9 := Aside0.mk hG_.2.2.1; have BK864 := Aside0.mk hG_.2.2.2.1; have HB := Aside0.mk hG_.2.2.2.2; clear hG_; obtain ⟨v882, hv14_⟩ : ∃ v_, v_ = u_ 14 := ⟨_, rfl⟩; have e14_ := hP_ 14 (by decide) (by rfl); have e14_ : (Kd.R (Kd.int .u8) 5 w1_ w.heap.size (fun _ => True) v882 y881) ∧ ∀ b_, (v882 : Value).ownBlock = some b_ → N0_ ≤ b_ := by rw [hv14_]; exact e14_
                    have HO883 := Aside0.mk e14_.1; clear e14_; clear hP_; refine ⟨?_⟩; generalize hfr_ : Reg.frame _ _ u_ = fr_ at hK ⊢; simp only [Sq.frm, ← hv14_] at hfr_; subst hfr_; clear hv14_; have hcv49 := own_string (P := Try.prog) Try.underlying28 Try.underlying5 Try.underlying9 (Kd.own_of_R HO883.out); refine value_ (w1 := ?_) (v := ?_) (by rfl) rfl ?_ ?_
                    rotate_left 2
                    ·go_simp
                     constructor
                     ·rfl
                     ·rfl
                    exact hK _ _ (by first | rfl | (simp only [i64_w, i32_w]; rfl)) (Below.refl _ _) (fun h_ => by cases h_)
                  intro u_ w56 hG_ hQ_ hA_; obtain ⟨hS_, hN_, h3_, h4_, h5_⟩ := hG_; obtain ⟨v875, hv4_⟩ : ∃ v_, v_ = u_ 4 := ⟨_, rfl⟩; have e4_ := hQ_ 4 (by decide); have e4_ : (Kd.R (Kd.int .u8) 5 w56 w.heap.size (fun _ => True) v875 y874) ∧ ∀ b_, (v875 : Value).ownBlock = some b_ → N0_ ≤ b_ := by rw [hv4_]; exact e4_
                  have e5_ : u_ 5 = .string (strOfNums y874) := hQ_ 5 (by decide); obtain ⟨v878, hv9_⟩ : ∃ v_, v_ = u_ 9 := ⟨_, rfl⟩; have e9_ := hQ_ 9 (by decide); have e9_ : (Kd.R (Kd.int .i64) 3 w56 w.heap.size (fun _ => True) v878 y877) ∧ ∀ b_, (v878 : Value).ownBlock = some b_ → N0_ ≤ b_ := by rw [hv9_]; exact e9_
                  have e10_ : u_ 10 = .string t880 := hQ_ 10 (by decide); have e11_ : u_ 11 = .string ((strOfNums y874) ++ t880) := hQ_ 11 (by decide); obtain ⟨v882, hv14_⟩ : ∃ v_, v_ = u_ 14 := ⟨_, rfl⟩; have e14_ := hQ_ 14 (by decide); have e14_ : (Kd.R (Kd.int .u8) 5 w56 w.heap.size (fun _ => True) v882 y881) ∧ ∀ b_, (v882 : Value).ownBlock = some b_ → N0_ ≤ b_ := by rw [hv14_]; exact e14_
                  have e15_ : u_ 15 = .string (strOfNums y881) := hQ_ 15 (by decide); have h3_o := h3_; have h0_ : Kd.R (Kd.int .u8) 5 w56 w.heap.size (fun k_ => some k_ ≠ (v882 : Value).ownBlock) v875 y874 := Kd.R_mono (Kd.R_tight rfl e4_.1) (fun k_ hk_ => (by have h_ := hA_ 4 (by decide) 14 (by decide) rfl rfl (by decide); rw [← hv4_, ← hv14_] at h_; exact h_ k_ hk_.symm)); have h1_ : Kd.R (Kd.int .i64) 3 w56 w.heap.size (fun k_ => some k_ ≠ (.slice Ao42 x9_4.length co42 : Value).ownBlock) v878 y877 := Kd.R_mono (Kd.R_tight rfl e9_.1) (fun k_ hk_ => (fun h_ => by have h1_ := (h3_o.1 _ h_.symm).2; have h2_ := e9_.2 _ hk_.symm; omega)); have h2_ : Kd.R (Kd.int .u8) 5 w56 w.heap.size (fun k_ => some k_ ≠ (v875 : Value).ownBlock) v882 y881 := Kd.R_mono (Kd.R_tight rfl e14_.1) (fun k_ hk_ => (by have h_ := hA_ 14 (by decide) 4 (by decide) rfl rfl (by decide); rw [← hv14_, ← hv4_] at h_; exact h_ k_ hk_.symm)); have h3_ : Kd.R (Kd.int .i64) 3 w56 w.heap.size (fun k_ => some k_ ≠ (v878 : Value).ownBlock) (.slice Ao42 x9_4.length co42) x9_4 := Kd.R_mono (h3_o) (fun k_ hk_ => (fun h_ => by have h1_ := e9_.2 _ h_.symm; have h2_ := hk_.2; omega)); clear h3_o; clear e4_; clear e9_; clear e14_; refine ⟨?_⟩; generalize hfr_ : Reg.frame _ _ u_ = fr_; simp only [Sq.frm, ← hv4_, e5_, ← hv9_, e10_, e11_, ← hv14_, e15_] at hfr_; subst hfr_; clear hQ_ hA_ hN_ hN0_ hv4_ hv9_ hv14_ e5_ e10_ e11_ e15_; have n0_ : Aside0 (Kd.R (Kd.int .u8) 5 w56 w.heap.size (fun k_ => some k_ ≠ (v882 : Value).ownBlock) v875 y874) := ⟨h0_⟩; have n1_ : Aside0 (Kd.R (Kd.int .i64) 3 w56 w.heap.size (fun k_ => some k_ ≠ (.slice Ao42 x9_4.length co42 : Value).ownBlock) v878 y877) := ⟨h1_⟩; have n2_ : Aside0 (Kd.R (Kd.int .u8) 5 w56 w.heap.size (fun k_ => some k_ ≠ (v875 : Value).ownBlock) v882 y881) := ⟨h2_⟩; have n3_ : Aside0 (Kd.R (Kd.int .i64) 3 w56 w.heap.size (fun k_ => some k_ ≠ (v878 : Value).ownBlock) (.slice Ao42 x9_4.length co42) x9_4) := ⟨h3_⟩
                  have n4_ : Aside0 (w56.heap[gb864]? = some (.cells #[.int .i64 a0_0, .int .i64 a0_1, .int .i64 a0_2, .int .i64 a0_3, .slice A0_4 l0_4.length c0_4, .slice A0_5 l0_5.length c0_5] 40 (0, 0))) := ⟨h4_⟩; have n5_ : Aside0 (Below w.heap.size w w56) := ⟨h5_⟩; clear HO_9; clear BK864; clear HB; clear h0_ h1_ h2_ h3_ h4_ h5_; have HO876 := n0_; have HO879 := n1_; have HO883 := n2_; have HO_9 := n3_; have BK864 := n4_; have HB := n5_; clear n0_ n1_ n2_ n3_ n4_ n5_; have hHeld : Sq.C6 w56 gb864 (.int .i64 a0_0) (.int .i64 a0_1) (.int .i64 a0_2) (.int .i64 a0_3) (.slice A0_4 l0_4.length c0_4) (.slice A0_5 l0_5.length c0_5) := hS_; refine Sq.p_ 16 76 ?_ (Sq.b 18 131071) rfl rfl HT_ (by kernel_rfl) (fun _ _ _ h => h) (Or.inl ⟨by rfl, ?_⟩) ?_ ?_ ?_
                  rotate_left
                  ·intro w'; go_simp; with_reducible rfl
                  rotate_left
                  ·simp only [Sq.put]; rfl
                  refine Sq.p_ 17 14 ?_ (Sq.b 18 262143) rfl rfl HT_ (by kernel_rfl) (fun _ _ _ h => h) (Or.inl ⟨by rfl, ?_⟩) ?_ ?_ ?_
                  rotate_left
                  ·intro w'; go_simp; with_reducible rfl
                  rotate_left
                  ·simp only [Sq.put]; rfl
                  refine done_ (done_of HT_.out (by kernel_rfl)) ?_; try go_wp2
                  have n0_ := Aside0.mk (Kd.R_drew HO_9.out); have n1_ := Aside0.mk (Kd.R_drew HO876.out); have n2_ := Aside0.mk (Kd.R_drew HO879.out); have n3_ := Aside0.mk (Kd.R_drew HO883.out); have n4_ := Aside0.mk (blk_drew BK864.out); have n5_ := Aside0.mk (below_drew1 HB.out); clear HO_9; clear HO876; clear HO879; clear HO883; clear BK864; clear HB; have HO_9 := n0_; have HO876 := n1_; have HO879 := n2_; have HO883 := n3_; have BK864 := n4_; have HB := n5_; clear n0_ n1_ n2_ n3_ n4_ n5_; refine start_ (n := 23) (S := fun w' => Sq.C6 w' gb864 (.int .i64 a0_0) (.int .i64 a0_1) (.int .i64 a0_2) (.int .i64 a0_3) (.slice A0_4 l0_4.length c0_4) (.slice A0_5 l0_5.length c0_5)) (ds := []) #[false, false, false, false, false, false, false, false, false, false, false, false, false, false, false, false, false, false, false, false, false, false, false] (by kernel_rfl) rfl rfl (Sq.c6 BK864) (fun hHeld => ?_); refine with_tabW impl_TgaPut.tab21 impl_TgaPut.bits21 (fun HT_ HW_ => ?_)
                  generalize w56.drew = w57 at HO_9 HO876 HO879 HO883 BK864 HB hHeld ⊢; refine Sq.p_ 0 77 ?_ (Sq.b 23 1) rfl rfl HT_ (by kernel_rfl) (fun _ _ _ h => h) (Or.inl ⟨by rfl, ?_⟩) ?_ ?_ ?_
                  rotate_left
                  ·intro w'; go_simp; with_reducible rfl
                  rotate_left
                  ·simp only [Sq.put]; rfl
                  refine Sq.p_ 1 78 ?_ (Sq.b 23 3) rfl rfl HT_ (by kernel_rfl) (fun _ _ _ h => h) (Or.inl ⟨by rfl, ?_⟩) ?_ ?_ ?_
                  rotate_left
                  ·intro w'; go_simp; with_reducible rfl
                  rotate_left
                  ·simp only [Sq.put]; rfl
                  refine Sq.p_ 3 80 ?_ (Sq.b 23 11) rfl rfl HT_ (by kernel_rfl) (fun _ _ _ h => h) (Or.inl ⟨by rfl, ?_⟩) ?_ ?_ ?_
                  rotate_left
                  ·intro w'; go_simp; with_reducible rfl
                  rotate_left
                  ·simp only [Sq.put]; rfl
                  refine Sq.p_ 8 85 ?_ (Sq.b 23 267) rfl rfl HT_ (by kernel_rfl) (fun _ _ _ h => h) (Or.inl ⟨by rfl, ?_⟩) ?_ ?_ ?_
                  rotate_left
                  ·intro w'; go_simp; with_reducible rfl
                  rotate_left
                  ·simp only [Sq.put]; rfl
                  refine Sq.p_ 11 88 ?_ (Sq.b 23 2315) rfl rfl HT_ (by kernel_rfl) (fun _ _ _ h => h) (Or.inl ⟨by rfl, ?_⟩) ?_ ?_ ?_
                  rotate_left
                  ·intro w'; go_simp; with_reducible rfl
                  rotate_left
                  ·simp only [Sq.put]; rfl
                  refine Sq.p_ 12 89 ?_ (Sq.b 23 6411) rfl rfl HT_ (by kernel_rfl) (fun _ _ _ h => h) (Or.inl ⟨by rfl, ?_⟩) ?_ ?_ ?_
                  rotate_left
                  ·intro w'; go_simp; with_reducible rfl
                  rotate_left
                  ·simp only [Sq.put]; rfl
                  refine Sq.p_ 16 93 ?_ (Sq.b 23 71947) rfl rfl HT_ (by kernel_rfl) (fun _ _ _ h => h) (Or.inl ⟨by rfl, ?_⟩) ?_ ?_ ?_
                  rotate_left
                  ·intro w'; go_simp; with_reducible rfl
                  rotate_left
                  ·simp only [Sq.put]; rfl
                  refine Sq.p_ 20 97 ?_ (Sq.b 23 1120523) rfl rfl HT_ (by kernel_rfl) (fun _ _ _ h => h) (Or.inl ⟨by rfl, ?_⟩) ?_ ?_ ?_
                  rotate_left
                  ·intro w'; go_simp; with_reducible rfl
                  rotate_left
                  ·simp only [Sq.put]; rfl
                  refine Sq.k 2 79 ?_ (Sq.b 23 1120527) rfl rfl HT_ HW_ (by kernel_rfl) (fun _ _ _ h => h) (Or.inl ⟨by rfl, ?_⟩) hHeld ?_ ?_ ?_
                  rotate_left
                  ·rintro w' ⟨s0, s1, s2, s3, s4, s5⟩; go_simp; with_reducible rfl
                  rotate_left
                  ·simp only [Sq.put]; rfl
                  refine Sq.k 4 81 ?_ (Sq.b 23 1120543) rfl rfl HT_ HW_ (by kernel_rfl) (fun _ _ _ h => h) (Or.inl ⟨by rfl, ?_⟩) hHeld ?_ ?_ ?_
                  rotate_left
                  ·rintro w' ⟨s0, s1, s2, s3, s4, s5⟩; go_simp; with_reducible rfl
                  rotate_left
                  ·simp only [Sq.put]; rfl
                  refine Sq.k 9 86 ?_ (Sq.b 23 1121055) rfl rfl HT_ HW_ (by kernel_rfl) (fun _ _ _ h => h) (Or.inl ⟨by rfl, ?_⟩) hHeld ?_ ?_ ?_
                  rotate_left
                  ·rintro w' ⟨s0, s1, s2, s3, s4, s5⟩; go_simp; with_reducible rfl
                  rotate_left
                  ·simp only [Sq.put]; rfl
                  refine Sq.p_ 10 87 ?_ (Sq.b 23 1122079) rfl rfl HT_ (by kernel_rfl) (fun _ _ _ h => h) (Or.inl ⟨by rfl, ?_⟩) ?_ ?_ ?_
                  rotate_left
                  ·intro w'; go_simp; with_reducible rfl
                  rotate_left
                  ·simp only [Sq.put]; rfl
                  refine Sq.k 17 94 ?_ (Sq.b 23 1253151) rfl rfl HT_ HW_ (by kernel_rfl) (fun _ _ _ h => h) (Or.inl ⟨by rfl, ?_⟩) hHeld ?_ ?_ ?_
                  rotate_left
                  ·rintro w' ⟨s0, s1, s2, s3, s4, s5⟩; go_simp; with_reducible rfl
                  rotate_left
                  ·simp only [Sq.put]; rfl
                  refine Reg.size_ (fun N0_ hN0_ => ?_)
                  refine Reg.mid_ #[true, true, true, true, true, true, true, true, true, true, true, true, true, true, true, true, true, true, true, false, true, false, false] [0, 0, 2, 0, 8, 30, 62, 127, 0, 256, 768, 0, 2048, 7936, 16128, 32767, 0, 65536, 196734, 524287, 0, 2097151, 4194303] [(82, 5), (83, 6), (84, 7), (90, 13), (91, 14), (92, 15), (95, 18)] [5, 6, 7, 13, 14, 15, 18] [5, 13] (Reg.sel [(5, fun v_ w' => (Kd.R (Kd.int .i64) 3 w' w.heap.size (fun _ => True) v_ y884) ∧ ∀ b_, (v_ : Value).ownBlock = some b_ → N0_ ≤ b_), (6, fun v_ _ => v_ = .string t887), (7, fun v_ _ => v_ = .string ((((strOfNums y874) ++ t880) ++ (strOfNums y881)) ++ t887)), (13, fun v_ w' => (Kd.R (Kd.int .u8) 5 w' w.heap.size (fun _ => True) v_ y888) ∧ ∀ b_, (v_ : Value).ownBlock = some b_ → N0_ ≤ b_), (14, fun v_ _ => v_ = .string (strOfNums y888)), (15, fun v_ _ => v_ = .string (((((strOfNums y874) ++ t880) ++ (strOfNums y881)) ++ t887) ++ (strOfNums y888))), (18, fun v_ _ => v_ = .string t891)]) (fun w' => (Sq.C6 w' gb864 (.int .i64 a0_0) (.int .i64 a0_1) (.int .i64 a0_2) (.int .i64 a0_3) (.slice A0_4 l0_4.length c0_4) (.slice A0_5 l0_5.length c0_5)) ∧ (N0_ ≤ w'.heap.size) ∧ (Kd.R (Kd.int .u8) 5 w' w.heap.size (fun k_ => (some k_ ≠ (v882 : Value).ownBlock) ∧ k_ < N0_) v875 y874) ∧ (Kd.R (Kd.int .i64) 3 w' w.heap.size (fun k_ => (some k_ ≠ (.slice Ao42 x9_4.length co42 : Value).ownBlock) ∧ k_ < N0_) v878 y877) ∧ (Kd.R (Kd.int .u8) 5 w' w.heap.size (fun k_ => (some k_ ≠ (v875 : Value).ownBlock) ∧ k_ < N0_) v882 y881) ∧ (Kd.R (Kd.int .i64) 3 w' w.heap.size (fun k_ => (some k_ ≠ (v878 : Value).ownBlock) ∧ k_ < N0_) (.slice Ao42 x9_4.length co42) x9_4) ∧ (w'.heap[gb864]? = some (.cells #[.int .i64 a0_0, .int .i64 a0_1, .int .i64 a0_2, .int .i64 a0_3, .slice A0_4 l0_4.length c0_4, .slice A0_5 l0_5.length c0_5] 40 (0, 0))) ∧ (Below w.heap.size w w')) 3 (by kernel_rfl) (by kernel_rfl) (by kernel_rfl) (by kernel_rfl) rfl ?hD67_ ?hG67_ ?hS67_ ?hW67_ ?hO67_ ?hE67_
                  case hD67_ => exact Reg.sel_st ⟨fun _ _ _ h_ hb_ => ⟨Kd.R_below h_.1 hb_, h_.2⟩, fun _ _ _ h_ _ => h_, fun _ _ _ h_ _ => h_, fun _ _ _ h_ hb_ => ⟨Kd.R_below h_.1 hb_, h_.2⟩, fun _ _ _ h_ _ => h_, fun _ _ _ h_ _ => h_, fun _ _ _ h_ _ => h_, trivial⟩
                  case hG67_ =>
                   rintro w1_ w2_ ⟨⟨c0_, c1_, c2_, c3_, c4_, c5_⟩, hN_, b0_, b1_, b2_, b5_, b6_, b7_⟩ hb_; exact ⟨⟨Reg.cell_step c0_ hb_, Reg.cell_step c1_ hb_, Reg.cell_step c2_ hb_, Reg.cell_step c3_ hb_, Reg.cell_step c4_ hb_, Reg.cell_step c5_ hb_⟩, Nat.le_trans hN_ (below_size hb_), (by first | exact blk_below b0_ hb_ | exact below_step b0_ hb_ | exact Kd.R_below b0_ hb_ | exact Kd.C_below b0_ hb_), (by first | exact blk_below b1_ hb_ | exact below_step b1_ hb_ | exact Kd.R_below b1_ hb_ | exact Kd.C_below b1_ hb_), (by first | exact blk_below b2_ hb_ | exact below_step b2_ hb_ | exact Kd.R_below b2_ hb_ | exact Kd.C_below b2_ hb_), (by first | exact blk_below b5_ hb_ | exact below_step b5_ hb_ | exact Kd.R_below b5_ hb_ | exact Kd.C_below b5_ hb_), (by first | exact blk_below b6_ hb_ | exact below_step b6_ hb_ | exact Kd.R_below b6_ hb_ | exact Kd.C_below b6_ hb_), (by first | exact blk_below b7_ hb_ | exact below_step b7_ hb_ | exact Kd.R_below b7_ hb_ | exact Kd.C_below b7_ hb_)⟩
                  case hS67_ => exact fun _ h_ => h_.1
                  case hW67_ => exact ⟨hHeld, Nat.le_of_eq hN0_, (Kd.R_mono (Kd.R_bound (by (with_reducible repeat (first | refine blk_drewN ?_ _ | refine blk_drew ?_ | refine blk_alloc ?_ _ | apply below_alloc | apply pw_below_drewN | apply below_drew1 | apply Kd.R_alloc | apply Kd.R_drewN | apply Kd.R_drew)); exact HO876.out)) (fun _ hk_ => ⟨hk_.1, by rw [hN0_]; exact hk_.2.2.1⟩)), (Kd.R_mono (Kd.R_bound (by (with_reducible repeat (first | refine blk_drewN ?_ _ | refine blk_drew ?_ | refine blk_alloc ?_ _ | apply below_alloc | apply pw_below_drewN | apply below_drew1 | apply Kd.R_alloc | apply Kd.R_drewN | apply Kd.R_drew)); exact HO879.out)) (fun _ hk_ => ⟨hk_.1, by rw [hN0_]; exact hk_.2.2.1⟩)), (Kd.R_mono (Kd.R_bound (by (with_reducible repeat (first | refine blk_drewN ?_ _ | refine blk_drew ?_ | refine blk_alloc ?_ _ | apply below_alloc | apply pw_below_drewN | apply below_drew1 | apply Kd.R_alloc | apply Kd.R_drewN | apply Kd.R_drew)); exact HO883.out)) (fun _ hk_ => ⟨hk_.1, by rw [hN0_]; exact hk_.2.2.1⟩)), (Kd.R_mono (Kd.R_bound (by (with_reducible repeat (first | refine blk_drewN ?_ _ | refine blk_drew ?_ | refine blk_alloc ?_ _ | apply below_alloc | apply pw_below_drewN | apply below_drew1 | apply Kd.R_alloc | apply Kd.R_drewN | apply Kd.R_drew)); exact HO_9.out)) (fun _ hk_ => ⟨hk_.1, by rw [hN0_]; exact hk_.2.2.1⟩)), (by (with_reducible repeat (first | refine blk_drewN ?_ _ | refine blk_drew ?_ | refine blk_alloc ?_ _ | apply below_alloc | apply pw_below_drewN | apply below_drew1 | apply Kd.R_alloc | apply Kd.R_drewN | apply Kd.R_drew)); exact BK864.out), (by (with_reducible repeat (first | refine blk_drewN ?_ _ | refine blk_drew ?_ | refine blk_alloc ?_ _ | apply below_alloc | apply pw_below_drewN | apply below_drew1 | apply Kd.R_alloc | apply Kd.R_drewN | apply Kd.R_drew)); exact HB.out)⟩
                  case hO67_ =>
                   refine ⟨?_, ?_, ?_, ?_, ?_, ?_, ?_, trivial⟩
                   ·intro o_ ho_; simp only [Sq.ge] at ho_; subst ho_; intro u_ w1_ hG_ hP_ K hK; have hN_ := hG_.2.1; clear HO876; clear HO879; clear HO883; clear HO_9; clear BK864; clear HB; have HO876 := Aside0.mk hG_.2.2.1; have HO879 := Aside0.mk hG_.2.2.2.1; have HO883 := Aside0.mk hG_.2.2.2.2.1; have HO_9 := Aside0.mk hG_.2.2.2.2.2.1; have BK864 := Aside0.mk hG_.2.2.2.2.2.2.1; have HB := Aside0.mk hG_.2.2.2.2.2.2.2; clear hG_; clear hP_; refine ⟨?_⟩; generalize hfr_ : Reg.frame _ _ u_ = fr_ at hK ⊢; simp only [Sq.frm] at hfr_; subst hfr_; refine Kd.R_lit_step (Kd.int .i64) _ 3 ?hg (N := 82) ?hd (xs := ([a0_2, a0_3] : List Int)) (inner := [.int .i64 a0_2, .int .i64 a0_3]) (ok := fun _ => True) (okp := fun _ => True) ?hr ?hp (fun _ hk => hk) trivial (Below.refl _ _) (Nat.le_refl _) (by simp) ?_; (case hd => rfl); (case hg => rfl); (case hr => first | (go_simp; done) | (go_simp; rfl)); (case hp => exact (Reps.one (show Kd.M (Kd.int .i64) _ _ _ a0_2 [.int .i64 a0_2] from rfl) (Reps.one (show Kd.M (Kd.int .i64) _ _ _ a0_3 [.int .i64 a0_3] from rfl) (Reps.none _ _))))
                    intro v885 w58 ho59 hb hg_ hnew_; (first | rw [← Ny884.out] at ho59 | (simp only [Int.reduceToNat] at ho59; rw [← Ny884.out] at ho59))
                    exact hK _ _ ⟨Kd.R_mono (Kd.R_lower ho59 (below_size HB.out)) (fun _ _ => trivial), fun b_ h_ => Nat.le_trans hN_ (Kd.R_base ho59 b_ h_)⟩ hb (fun _ b_ h_ => ⟨Kd.R_base ho59 b_ h_, Kd.R_lt ho59 b_ h_⟩)
                   ·intro o_ ho_; simp only [Sq.ge] at ho_; subst ho_; intro u_ w1_ hG_ hP_ K hK; have hN_ := hG_.2.1; clear HO876; clear HO879; clear HO883; clear HO_9; clear BK864; clear HB; have HO876 := Aside0.mk hG_.2.2.1; have HO879 := Aside0.mk hG_.2.2.2.1; have HO883 := Aside0.mk hG_.2.2.2.2.1; have HO_9 := Aside0.mk hG_.2.2.2.2.2.1; have BK864 := Aside0.mk hG_.2.2.2.2.2.2.1; have HB := Aside0.mk hG_.2.2.2.2.2.2.2; clear hG_; obtain ⟨v885, hv5_⟩ : ∃ v_, v_ = u_ 5 := ⟨_, rfl⟩; have e5_ := hP_ 5 (by decide) (by rfl); have e5_ : (Kd.R (Kd.int .i64) 3 w1_ w.heap.size (fun _ => True) v885 y884) ∧ ∀ b_, (v885 : Value).ownBlock = some b_ → N0_ ≤ b_ := by rw [hv5_]; exact e5_
                    have HO886 := Aside0.mk e5_.1; clear e5_; obtain ⟨Ao61, co61, hs_⟩ := Kd.R_slice HO886.out; subst hs_; clear hP_; refine ⟨?_⟩; generalize hfr_ : Reg.frame _ _ u_ = fr_ at hK ⊢; simp only [Sq.frm, ← hv5_] at hfr_; subst hfr_; clear hv5_; refine goes_ Try.func63 (by kernel_rfl) rfl #[.int .i64 2, .slice Ao61 y884.length co61] (by rfl) rfl rfl (by (try simp only [Sq.mp]); first | done | rfl | (simp only [List.length_drop, List.length_take]; rfl)) ?_; with_reducible refine (impl_numbers.calls k4 2 _ _ y884 t887 _ ?side1 ?side2 A35.out).mono ?_
                    (case side1 => exact Sq.c_ HO886)
                    (case side2 => exact (Kd.R_reads' HO886.out).2.1)
                    rintro e w62 ⟨rfl, hb⟩; refine ⟨_, rfl, ?_⟩; exact hK _ _ rfl hb (fun h_ => by cases h_)
                   ·intro o_ ho_; simp only [Sq.ge] at ho_; subst ho_; intro u_ w1_ hG_ hP_ K hK; have hN_ := hG_.2.1; clear HO876; clear HO879; clear HO883; clear HO_9; clear BK864; clear HB; have HO876 := Aside0.mk hG_.2.2.1; have HO879 := Aside0.mk hG_.2.2.2.1; have HO883 := Aside0.mk hG_.2.2.2.2.1; have HO_9 := Aside0.mk hG_.2.2.2.2.2.1; have BK864 := Aside0.mk hG_.2.2.2.2.2.2.1; have HB := Aside0.mk hG_.2.2.2.2.2.2.2; clear hG_; obtain ⟨v885, hv5_⟩ : ∃ v_, v_ = u_ 5 := ⟨_, rfl⟩; have e5_ := hP_ 5 (by decide) (by rfl); have e5_ : (Kd.R (Kd.int .i64) 3 w1_ w.heap.size (fun _ => True) v885 y884) ∧ ∀ b_, (v885 : Value).ownBlock = some b_ → N0_ ≤ b_ := by rw [hv5_]; exact e5_
                    have e6_ : u_ 6 = .string t887 := hP_ 6 (by decide) (by rfl); have HO886 := Aside0.mk e5_.1; clear e5_; clear hP_; refine ⟨?_⟩; generalize hfr_ : Reg.frame _ _ u_ = fr_ at hK ⊢; simp only [Sq.frm, ← hv5_, e6_] at hfr_; subst hfr_; clear hv5_ e6_; refine value_ (w1 := ?_) (v := ?_) (by rfl) rfl ?_ ?_
                    rotate_left 2
                    ·go_simp
                     constructor
                     ·rfl
                     ·rfl
                    exact hK _ _ (by first | rfl | (simp only [i64_w, i32_w]; rfl)) (Below.refl _ _) (fun h_ => by cases h_)
                   ·intro o_ ho_; simp only [Sq.ge] at ho_; subst ho_; intro u_ w1_ hG_ hP_ K hK; have hN_ := hG_.2.1; clear HO876; clear HO879; clear HO883; clear HO_9; clear BK864; clear HB; have HO876 := Aside0.mk hG_.2.2.1; have HO879 := Aside0.mk hG_.2.2.2.1; have HO883 := Aside0.mk hG_.2.2.2.2.1; have HO_9 := Aside0.mk hG_.2.2.2.2.2.1; have BK864 := Aside0.mk hG_.2.2.2.2.2.2.1; have HB := Aside0.mk hG_.2.2.2.2.2.2.2; clear hG_; clear hP_; refine ⟨?_⟩; generalize hfr_ : Reg.frame _ _ u_ = fr_ at hK ⊢; simp only [Sq.frm] at hfr_; subst hfr_; refine Kd.R_lit_step (Kd.int .u8) _ 5 ?hg (N := 90) ?hd (xs := ([(a0_1) % 256, (x8_17) % 256] : List Int)) (inner := [.int .u8 ((a0_1) % 256), .int .u8 ((x8_17) % 256)]) (ok := fun _ => True) (okp := fun _ => True) ?hr ?hp (fun _ hk => hk) trivial (Below.refl _ _) (Nat.le_refl _) (by simp) ?_; (case hd => rfl); (case hg => rfl); (case hr => first | (go_simp; done) | (go_simp; rfl)); (case hp => exact (Reps.one (show Kd.M (Kd.int .u8) _ _ _ ((a0_1) % 256) [.int .u8 ((a0_1) % 256)] from rfl) (Reps.one (show Kd.M (Kd.int .u8) _ _ _ ((x8_17) % 256) [.int .u8 ((x8_17) % 256)] from rfl) (Reps.none _ _))))
                    intro v889 w58 ho59 hb hg_ hnew_; (first | rw [← Ny888.out] at ho59 | (simp only [Int.reduceToNat] at ho59; rw [← Ny888.out] at ho59))
                    exact hK _ _ ⟨Kd.R_mono (Kd.R_lower ho59 (below_size HB.out)) (fun _ _ => trivial), fun b_ h_ => Nat.le_trans hN_ (Kd.R_base ho59 b_ h_)⟩ hb (fun _ b_ h_ => ⟨Kd.R_base ho59 b_ h_, Kd.R_lt ho59 b_ h_⟩)
                   ·intro o_ ho_; simp only [Sq.ge] at ho_; subst ho_; intro u_ w1_ hG_ hP_ K hK; have hN_ := hG_.2.1; clear HO876; clear HO879; clear HO883; clear HO_9; clear BK864; clear HB; have HO876 := Aside0.mk hG_.2.2.1; have HO879 := Aside0.mk hG_.2.2.2.1; have HO883 := Aside0.mk hG_.2.2.2.2.1; have HO_9 := Aside0.mk hG_.2.2.2.2.2.1; have BK864 := Aside0.mk hG_.2.2.2.2.2.2.1; have HB := Aside0.mk hG_.2.2.2.2.2.2.2; clear hG_; obtain ⟨v889, hv13_⟩ : ∃ v_, v_ = u_ 13 := ⟨_, rfl⟩; have e13_ := hP_ 13 (by decide) (by rfl); have e13_ : (Kd.R (Kd.int .u8) 5 w1_ w.heap.size (fun _ => True) v889 y888) ∧ ∀ b_, (v889 : Value).ownBlock = some b_ → N0_ ≤ b_ := by rw [hv13_]; exact e13_
                    have HO890 := Aside0.mk e13_.1; clear e13_; clear hP_; refine ⟨?_⟩; generalize hfr_ : Reg.frame _ _ u_ = fr_ at hK ⊢; simp only [Sq.frm, ← hv13_] at hfr_; subst hfr_; clear hv13_; have hcv61 := own_string (P := Try.prog) Try.underlying28 Try.underlying5 Try.underlying9 (Kd.own_of_R HO890.out); refine value_ (w1 := ?_) (v := ?_) (by rfl) rfl ?_ ?_
                    rotate_left 2
                    ·go_simp
                     constructor
                     ·rfl
                     ·rfl
                    exact hK _ _ (by first | rfl | (simp only [i64_w, i32_w]; rfl)) (Below.refl _ _) (fun h_ => by cases h_)
                   ·intro o_ ho_; simp only [Sq.ge] at ho_; subst ho_; intro u_ w1_ hG_ hP_ K hK; have hN_ := hG_.2.1; clear HO876; clear HO879; clear HO883; clear HO_9; clear BK864; clear HB; have HO876 := Aside0.mk hG_.2.2.1; have HO879 := Aside0.mk hG_.2.2.2.1; have HO883 := Aside0.mk hG_.2.2.2.2.1; have HO_9 := Aside0.mk hG_.2.2.2.2.2.1; have BK864 := Aside0.mk hG_.2.2.2.2.2.2.1; have HB := Aside0.mk hG_.2.2.2.2.2.2.2; clear hG_; obtain ⟨v885, hv5_⟩ : ∃ v_, v_ = u_ 5 := ⟨_, rfl⟩; have e5_ := hP_ 5 (by decide) (by rfl); have e5_ : (Kd.R (Kd.int .i64) 3 w1_ w.heap.size (fun _ => True) v885 y884) ∧ ∀ b_, (v885 : Value).ownBlock = some b_ → N0_ ≤ b_ := by rw [hv5_]; exact e5_
                    have e6_ : u_ 6 = .string t887 := hP_ 6 (by decide) (by rfl); have e7_ : u_ 7 = .string ((((strOfNums y874) ++ t880) ++ (strOfNums y881)) ++ t887) := hP_ 7 (by decide) (by rfl); obtain ⟨v889, hv13_⟩ : ∃ v_, v_ = u_ 13 := ⟨_, rfl⟩; have e13_ := hP_ 13 (by decide) (by rfl); have e13_ : (Kd.R (Kd.int .u8) 5 w1_ w.heap.size (fun _ => True) v889 y888) ∧ ∀ b_, (v889 : Value).ownBlock = some b_ → N0_ ≤ b_ := by rw [hv13_]; exact e13_
                    have e14_ : u_ 14 = .string (strOfNums y888) := hP_ 14 (by decide) (by rfl); have HO886 := Aside0.mk e5_.1; clear e5_; have HO890 := Aside0.mk e13_.1; clear e13_; clear hP_; refine ⟨?_⟩; generalize hfr_ : Reg.frame _ _ u_ = fr_ at hK ⊢; simp only [Sq.frm, ← hv5_, e6_, e7_, ← hv13_, e14_] at hfr_; subst hfr_; clear hv5_ e6_ e7_ hv13_ e14_; refine value_ (w1 := ?_) (v := ?_) (by rfl) rfl ?_ ?_
                    rotate_left 2
                    ·go_simp
                     constructor
                     ·rfl
                     ·rfl
                    exact hK _ _ (by first | rfl | (simp only [i64_w, i32_w]; rfl)) (Below.refl _ _) (fun h_ => by cases h_)
                   ·intro o_ ho_; simp only [Sq.ge] at ho_; subst ho_; intro u_ w1_ hG_ hP_ K hK; have hN_ := hG_.2.1; clear HO876; clear HO879; clear HO883; clear HO_9; clear BK864; clear HB; have HO876 := Aside0.mk hG_.2.2.1; have HO879 := Aside0.mk hG_.2.2.2.1; have HO883 := Aside0.mk hG_.2.2.2.2.1; have HO_9 := Aside0.mk hG_.2.2.2.2.2.1; have BK864 := Aside0.mk hG_.2.2.2.2.2.2.1; have HB := Aside0.mk hG_.2.2.2.2.2.2.2; clear hG_; obtain ⟨v885, hv5_⟩ : ∃ v_, v_ = u_ 5 := ⟨_, rfl⟩; have e5_ := hP_ 5 (by decide) (by rfl); have e5_ : (Kd.R (Kd.int .i64) 3 w1_ w.heap.size (fun _ => True) v885 y884) ∧ ∀ b_, (v885 : Value).ownBlock = some b_ → N0_ ≤ b_ := by rw [hv5_]; exact e5_
                    have e6_ : u_ 6 = .string t887 := hP_ 6 (by decide) (by rfl); have HO886 := Aside0.mk e5_.1; clear e5_; clear hP_; refine ⟨?_⟩; generalize hfr_ : Reg.frame _ _ u_ = fr_ at hK ⊢; simp only [Sq.frm, ← hv5_, e6_] at hfr_; subst hfr_; clear hv5_ e6_; refine goes_ Try.func65 (by kernel_rfl) rfl #[.slice A0_4 l0_4.length c0_4, .int .i64 3, .bool false] (by rfl) rfl rfl (by (try simp only [Sq.mp]); first | done | rfl | (simp only [List.length_drop, List.length_take]; rfl)) ?_; with_reducible refine (impl_colorsPut.calls k4 _ _ l0_4 3 false t891 _ ?side1 ?side2 A38.out).mono ?_
                    (case side1 => exact Sq.i_ HR0_4 HB)
                    (case side2 => exact HC0_4.out)
                    rintro e w63 ⟨rfl, hb⟩; refine ⟨_, rfl, ?_⟩; exact hK _ _ rfl hb (fun h_ => by cases h_)
                  intro u_ w66 hG_ hQ_ hA_; obtain ⟨hS_, hN_, h0_, h1_, h2_, h5_, h6_, h7_⟩ := hG_; obtain ⟨v885, hv5_⟩ : ∃ v_, v_ = u_ 5 := ⟨_, rfl⟩; have e5_ := hQ_ 5 (by decide); have e5_ : (Kd.R (Kd.int .i64) 3 w66 w.heap.size (fun _ => True) v885 y884) ∧ ∀ b_, (v885 : Value).ownBlock = some b_ → N0_ ≤ b_ := by rw [hv5_]; exact e5_
                  have e6_ : u_ 6 = .string t887 := hQ_ 6 (by decide); have e7_ : u_ 7 = .string ((((strOfNums y874) ++ t880) ++ (strOfNums y881)) ++ t887) := hQ_ 7 (by decide); obtain ⟨v889, hv13_⟩ : ∃ v_, v_ = u_ 13 := ⟨_, rfl⟩; have e13_ := hQ_ 13 (by decide); have e13_ : (Kd.R (Kd.int .u8) 5 w66 w.heap.size (fun _ => True) v889 y888) ∧ ∀ b_, (v889 : Value).ownBlock = some b_ → N0_ ≤ b_ := by rw [hv13_]; exact e13_
                  have e14_ : u_ 14 = .string (strOfNums y888) := hQ_ 14 (by decide); have e15_ : u_ 15 = .string (((((strOfNums y874) ++ t880) ++ (strOfNums y881)) ++ t887) ++ (strOfNums y888)) := hQ_ 15 (by decide); have e18_ : u_ 18 = .string t891 := hQ_ 18 (by decide); have h0_o := h0_; have h1_o := h1_; have h2_o := h2_; have h5_o := h5_; have h3_ : Kd.R (Kd.int .i64) 3 w66 w.heap.size (fun k_ => some k_ ≠ (v878 : Value).ownBlock ∧ some k_ ≠ (.slice Ao42 x9_4.length co42 : Value).ownBlock) v885 y884 := Kd.R_mono (Kd.R_tight rfl e5_.1) (fun k_ hk_ => ⟨(fun h_ => by have h1_ := (h1_o.1 _ h_.symm).2; have h2_ := e5_.2 _ hk_.symm; omega), (fun h_ => by have h1_ := (h5_o.1 _ h_.symm).2; have h2_ := e5_.2 _ hk_.symm; omega)⟩); have h4_ : Kd.R (Kd.int .u8) 5 w66 w.heap.size (fun k_ => some k_ ≠ (v875 : Value).ownBlock ∧ some k_ ≠ (v882 : Value).ownBlock) v889 y888 := Kd.R_mono (Kd.R_tight rfl e13_.1) (fun k_ hk_ => ⟨(fun h_ => by have h1_ := (h0_o.1 _ h_.symm).2; have h2_ := e13_.2 _ hk_.symm; omega), (fun h_ => by have h1_ := (h2_o.1 _ h_.symm).2; have h2_ := e13_.2 _ hk_.symm; omega)⟩); have h0_ : Kd.R (Kd.int .u8) 5 w66 w.heap.size (fun k_ => some k_ ≠ (v882 : Value).ownBlock ∧ some k_ ≠ (v889 : Value).ownBlock) v875 y874 := Kd.R_mono (h0_o) (fun k_ hk_ => ⟨(by first | exact hk_.1 | exact hk_.1.1 | exact hk_.1.2 | exact hk_.1.2.1 | exact hk_.1.2.2 | exact hk_.1.2.2.1 | exact hk_.1.2.2.2), (fun h_ => by have h1_ := e13_.2 _ h_.symm; have h2_ := hk_.2; omega)⟩); have h1_ : Kd.R (Kd.int .i64) 3 w66 w.heap.size (fun k_ => some k_ ≠ (v885 : Value).ownBlock ∧ some k_ ≠ (.slice Ao42 x9_4.length co42 : Value).ownBlock) v878 y877 := Kd.R_mono (h1_o) (fun k_ hk_ => ⟨(fun h_ => by have h1_ := e5_.2 _ h_.symm; have h2_ := hk_.2; omega), (by first | exact hk_.1 | exact hk_.1.1 | exact hk_.1.2 | exact hk_.1.2.1 | exact hk_.1.2.2 | exact hk_.1.2.2.1 | exact hk_.1.2.2.2)⟩)
                  have h2_ : Kd.R (Kd.int .u8) 5 w66 w.heap.size (fun k_ => some k_ ≠ (v875 : Value).ownBlock ∧ some k_ ≠ (v889 : Value).ownBlock) v882 y881 := Kd.R_mono (h2_o) (fun k_ hk_ => ⟨(by first | exact hk_.1 | exact hk_.1.1 | exact hk_.1.2 | exact hk_.1.2.1 | exact hk_.1.2.2 | exact hk_.1.2.2.1 | exact hk_.1.2.2.2), (fun h_ => by have h1_ := e13_.2 _ h_.symm; have h2_ := hk_.2; omega)⟩); have h5_ : Kd.R (Kd.int .i64) 3 w66 w.heap.size (fun k_ => some k_ ≠ (v878 : Value).ownBlock ∧ some k_ ≠ (v885 : Value).ownBlock) (.slice Ao42 x9_4.length co42) x9_4 := Kd.R_mono (h5_o) (fun k_ hk_ => ⟨(by first | exact hk_.1 | exact hk_.1.1 | exact hk_.1.2 | exact hk_.1.2.1 | exact hk_.1.2.2 | exact hk_.1.2.2.1 | exact hk_.1.2.2.2), (fun h_ => by have h1_ := e5_.2 _ h_.symm; have h2_ := hk_.2; omega)⟩); clear h0_o; clear h1_o; clear h2_o; clear h5_o; clear e5_; clear e13_; refine ⟨?_⟩; generalize hfr_ : Reg.frame _ _ u_ = fr_; simp only [Sq.frm, ← hv5_, e6_, e7_, ← hv13_, e14_, e15_, e18_] at hfr_; subst hfr_; clear hQ_ hA_ hN_ hN0_ hv5_ hv13_ e6_ e7_ e14_ e15_ e18_; have n0_ : Aside0 (Kd.R (Kd.int .u8) 5 w66 w.heap.size (fun k_ => some k_ ≠ (v882 : Value).ownBlock ∧ some k_ ≠ (v889 : Value).ownBlock) v875 y874) := ⟨h0_⟩; have n1_ : Aside0 (Kd.R (Kd.int .i64) 3 w66 w.heap.size (fun k_ => some k_ ≠ (v885 : Value).ownBlock ∧ some k_ ≠ (.slice Ao42 x9_4.length co42 : Value).ownBlock) v878 y877) := ⟨h1_⟩; have n2_ : Aside0 (Kd.R (Kd.int .u8) 5 w66 w.heap.size (fun k_ => some k_ ≠ (v875 : Value).ownBlock ∧ some k_ ≠ (v889 : Value).ownBlock) v882 y881) := ⟨h2_⟩; have n3_ : Aside0 (Kd.R (Kd.int .i64) 3 w66 w.heap.size (fun k_ => some k_ ≠ (v878 : Value).ownBlock ∧ some k_ ≠ (.slice Ao42 x9_4.length co42 : Value).ownBlock) v885 y884) := ⟨h3_⟩; have n4_ : Aside0 (Kd.R (Kd.int .u8) 5 w66 w.heap.size (fun k_ => some k_ ≠ (v875 : Value).ownBlock ∧ some k_ ≠ (v882 : Value).ownBlock) v889 y888) := ⟨h4_⟩
                  have n5_ : Aside0 (Kd.R (Kd.int .i64) 3 w66 w.heap.size (fun k_ => some k_ ≠ (v878 : Value).ownBlock ∧ some k_ ≠ (v885 : Value).ownBlock) (.slice Ao42 x9_4.length co42) x9_4) := ⟨h5_⟩; have n6_ : Aside0 (w66.heap[gb864]? = some (.cells #[.int .i64 a0_0, .int .i64 a0_1, .int .i64 a0_2, .int .i64 a0_3, .slice A0_4 l0_4.length c0_4, .slice A0_5 l0_5.length c0_5] 40 (0, 0))) := ⟨h6_⟩; have n7_ : Aside0 (Below w.heap.size w w66) := ⟨h7_⟩; clear HO_9; clear HO876; clear HO879; clear HO883; clear BK864; clear HB; clear h0_ h1_ h2_ h3_ h4_ h5_ h6_ h7_; have HO876 := n0_; have HO879 := n1_; have HO883 := n2_; have HO886 := n3_; have HO890 := n4_; have HO_9 := n5_; have BK864 := n6_; have HB := n7_; clear n0_ n1_ n2_ n3_ n4_ n5_ n6_ n7_; have hHeld : Sq.C6 w66 gb864 (.int .i64 a0_0) (.int .i64 a0_1) (.int .i64 a0_2) (.int .i64 a0_3) (.slice A0_4 l0_4.length c0_4) (.slice A0_5 l0_5.length c0_5) := hS_; refine Sq.p_ 19 96 ?_ (Sq.b 23 2097151) rfl rfl HT_ (by kernel_rfl) (fun _ _ _ h => h) (Or.inl ⟨by rfl, ?_⟩) ?_ ?_ ?_
                  rotate_left
                  ·intro w'; go_simp; with_reducible rfl
                  rotate_left
                  ·simp only [Sq.put]; rfl
                  refine Sq.p_ 21 98 ?_ (Sq.b 23 4194303) rfl rfl HT_ (by kernel_rfl) (fun _ _ _ h => h) (Or.inl ⟨by rfl, ?_⟩) ?_ ?_ ?_
                  rotate_left
                  ·intro w'; go_simp; with_reducible rfl
                  rotate_left
                  ·simp only [Sq.put]; rfl
                  refine Sq.p_ 22 4 ?_ (Sq.b 23 8388607) rfl rfl HT_ (by kernel_rfl) (fun _ _ _ h => h) (Or.inl ⟨by rfl, ?_⟩) ?_ ?_ ?_
                  rotate_left
                  ·intro w'; go_simp; with_reducible rfl
                  rotate_left
                  ·simp only [Sq.put]; rfl
                  refine done_ (done_of HT_.out (by kernel_rfl)) ?_; try go_wp2
                  go_ret
                  exact ⟨by first | rfl | (simp [errW_none, errW_some] <;> rfl) | (simp [*, errW_none, errW_some] <;> rfl), (Sq.ut HB)⟩
                 ·rw [if_neg c40] at H; exact absurd H (by simp)
                ·rw [if_neg c39] at H; exact absurd H (by simp)
               ·rw [if_neg c37] at H; exact absurd H (by simp)
              ·rw [if_neg c36] at H; exact absurd H (by simp)
             ·rw [if_neg c34] at H; exact absurd H (by simp)
            ·rw [if_neg c33] at H; exact absurd H (by simp)
           ·replace c30 := Bool.eq_false_iff.mpr c30; subst c30; replace H := Sq.f H; obtain ⟨y892, hy892⟩ : ∃ y_ : List Int, y_ = (([0, (x6_14) % 256, (t865) % 256] : List Int)) := ⟨_, rfl⟩; replace H := Sq.y hy892 H; have Ny892 := Aside0.mk hy892; clear hy892; obtain ⟨y895, hy895⟩ : ∃ y_ : List Int, y_ = (([0, (l0_4.length : Int)] : List Int)) := ⟨_, rfl⟩; rw [← hy895] at H; have Ny895 := Aside0.mk hy895; clear hy895; replace H := Option.bind_eq_some_iff.mp H; obtain ⟨t898, A670, H⟩ := H; have A67 := Aside0.mk A670; clear A670
            by_cases c68 : (strOfNums y892).size + t898.size ≤ 9223372036854775807
            ·rw [if_pos c68] at H; have c68b0 := eq_true c68; have c68b1 : decide ((strOfNums y892).size + t898.size ≤ 9223372036854775807) = true := decide_eq_true c68; try have c68b2 : (9223372036854775807 < (strOfNums y892).size + t898.size) = False := eq_false (Nat.not_lt.2 c68)
             obtain ⟨y899, hy899⟩ : ∃ y_ : List Int, y_ = (([(x7_14) % 256, 0, 0, 0, 0] : List Int)) := ⟨_, rfl⟩; replace H := Sq.y hy899 H; have Ny899 := Aside0.mk hy899; clear hy899
             by_cases c69 : ((strOfNums y892) ++ t898).size + (strOfNums y899).size ≤ 9223372036854775807
             ·rw [if_pos c69] at H; have c69b0 := eq_true c69; have c69b1 : decide (((strOfNums y892) ++ t898).size + (strOfNums y899).size ≤ 9223372036854775807) = true := decide_eq_true c69; try have c69b2 : (9223372036854775807 < ((strOfNums y892) ++ t898).size + (strOfNums y899).size) = False := eq_false (Nat.not_lt.2 c69)
              try have c69b3 := c69b2
              try simp only [ByteArray.size_append] at c69b3
              obtain ⟨y902, hy902⟩ : ∃ y_ : List Int, y_ = (([a0_2, a0_3] : List Int)) := ⟨_, rfl⟩; rw [← hy902] at H; have Ny902 := Aside0.mk hy902; clear hy902; replace H := Option.bind_eq_some_iff.mp H; obtain ⟨t905, A700, H⟩ := H; have A70 := Aside0.mk A700; clear A700
              by_cases c71 : (((strOfNums y892) ++ t898) ++ (strOfNums y899)).size + t905.size ≤ 9223372036854775807
              ·rw [if_pos c71] at H; have c71b0 := eq_true c71; have c71b1 : decide ((((strOfNums y892) ++ t898) ++ (strOfNums y899)).size + t905.size ≤ 9223372036854775807) = true := decide_eq_true c71; try have c71b2 : (9223372036854775807 < (((strOfNums y892) ++ t898) ++ (strOfNums y899)).size + t905.size) = False := eq_false (Nat.not_lt.2 c71)
               try have c71b3 := c71b2
               try simp only [ByteArray.size_append] at c71b3
               obtain ⟨y906, hy906⟩ : ∃ y_ : List Int, y_ = (([(a0_1) % 256, (x8_17) % 256] : List Int)) := ⟨_, rfl⟩; replace H := Sq.y hy906 H; have Ny906 := Aside0.mk hy906; clear hy906
               by_cases c72 : ((((strOfNums y892) ++ t898) ++ (strOfNums y899)) ++ t905).size + (strOfNums y906).size ≤ 9223372036854775807
               ·rw [if_pos c72] at H; have c72b0 := eq_true c72; have c72b1 : decide (((((strOfNums y892) ++ t898) ++ (strOfNums y899)) ++ t905).size + (strOfNums y906).size ≤ 9223372036854775807) = true := decide_eq_true c72; try have c72b2 : (9223372036854775807 < ((((strOfNums y892) ++ t898) ++ (strOfNums y899)) ++ t905).size + (strOfNums y906).size) = False := eq_false (Nat.not_lt.2 c72)
                try have c72b3 := c72b2
                try simp only [ByteArray.size_append] at c72b3
                replace H := Option.bind_eq_some_iff.mp H; obtain ⟨t909, A730, H⟩ := H; have A73 := Aside0.mk A730; clear A730
                by_cases c74 : (((((strOfNums y892) ++ t898) ++ (strOfNums y899)) ++ t905) ++ (strOfNums y906)).size + t909.size ≤ 9223372036854775807
                ·rw [if_pos c74] at H; have c74b0 := eq_true c74; have c74b1 : decide ((((((strOfNums y892) ++ t898) ++ (strOfNums y899)) ++ t905) ++ (strOfNums y906)).size + t909.size ≤ 9223372036854775807) = true := decide_eq_true c74; try have c74b2 : (9223372036854775807 < (((((strOfNums y892) ++ t898) ++ (strOfNums y899)) ++ t905) ++ (strOfNums y906)).size + t909.size) = False := eq_false (Nat.not_lt.2 c74)
                 try have c74b3 := c74b2
                 try simp only [ByteArray.size_append] at c74b3
                 by_cases c75 : ((((((strOfNums y892) ++ t898) ++ (strOfNums y899)) ++ t905) ++ (strOfNums y906)) ++ t909).size + t872.size ≤ 9223372036854775807
                 ·rw [if_pos c75] at H; have c75b0 := eq_true c75; have c75b1 : decide (((((((strOfNums y892) ++ t898) ++ (strOfNums y899)) ++ t905) ++ (strOfNums y906)) ++ t909).size + t872.size ≤ 9223372036854775807) = true := decide_eq_true c75; try have c75b2 : (9223372036854775807 < ((((((strOfNums y892) ++ t898) ++ (strOfNums y899)) ++ t905) ++ (strOfNums y906)) ++ t909).size + t872.size) = False := eq_false (Nat.not_lt.2 c75)
                  try have c75b3 := c75b2
                  try simp only [ByteArray.size_append] at c75b3
                  obtain rfl := Option.some.inj H; obtain ⟨hcz76_0, hcz76_1, hcz76_2, hcz76_3, hcz76_4, hcz76_5, hfz76_0, hfz76_1, hfz76_2, hfz76_3, hfz76_4, hfz76_5⟩ := Sq.cell6 BK864; obtain ⟨Ao77, co77, eo77⟩ := Kd.R_slice HO_9.out; subst eo77; try go_wp2_with (first | ((with_reducible refine gate_callee (f := 63) rfl ?_); refine goesL_ (some 53) rfl rfl Try.func63 (by kernel_rfl) rfl #[.int .i64 (wrap64 (Int.tdiv a0_1 8)), .slice Ao77 x9_4.length co77] rfl (by (try simp only [Sq.mp]); first | done | rfl | (simp only [List.length_drop, List.length_take]; rfl)) ?_; (with_reducible refine (impl_numbers.calls k4 (wrap64 (Int.tdiv a0_1 8)) _ _ x9_4 t872 _ ?side1 ?side2 A29.out).mono ?_); (case side1 => exact Sq.c_ HO_9); (case side2 => exact (Kd.R_reads' HO_9.out).2.1); rintro e w78 ⟨rfl, hb⟩; refine ⟨_, rfl, ?_⟩; have n0_ := Sq.r_ HO_9 hb; have n1_ := Sq.b_ BK864 hb; have n2_ := Sq.us HB hb; clear HO_9; clear BK864; clear HB; have HO_9 := n0_; have BK864 := n1_; have HB := n2_; clear n0_ n1_ n2_; (try clear hb); (try clear hb2); (try clear hk); (try clear hi)))
                  have n0_ := Aside0.mk (Kd.R_drew HO_9.out); have n1_ := Aside0.mk (blk_drew BK864.out); have n2_ := Aside0.mk (below_drew1 HB.out); clear HO_9; clear BK864; clear HB; have HO_9 := n0_; have BK864 := n1_; have HB := n2_; clear n0_ n1_ n2_; refine start_ (n := 18) (S := fun w' => Sq.C6 w' gb864 (.int .i64 a0_0) (.int .i64 a0_1) (.int .i64 a0_2) (.int .i64 a0_3) (.slice A0_4 l0_4.length c0_4) (.slice A0_5 l0_5.length c0_5)) (ds := []) #[false, false, false, false, false, false, false, false, false, false, false, false, false, false, false, false, false, false] (by kernel_rfl) rfl rfl (Sq.c6 BK864) (fun hHeld => ?_); refine with_tabW impl_TgaPut.tab20 impl_TgaPut.bits20 (fun HT_ HW_ => ?_)
                  generalize w78.drew = w79 at HO_9 BK864 HB hHeld ⊢; refine Sq.p_ 0 60 ?_ (Sq.b 18 1) rfl rfl HT_ (by kernel_rfl) (fun _ _ _ h => h) (Or.inl ⟨by rfl, ?_⟩) ?_ ?_ ?_
                  rotate_left
                  ·intro w'; go_simp; with_reducible rfl
                  rotate_left
                  ·simp only [Sq.put]; rfl
                  refine Sq.p_ 1 61 ?_ (Sq.b 18 3) rfl rfl HT_ (by kernel_rfl) (fun _ _ _ h => h) (Or.inl ⟨by rfl, ?_⟩) ?_ ?_ ?_
                  rotate_left
                  ·intro w'; go_simp; with_reducible rfl
                  rotate_left
                  ·simp only [Sq.put]; rfl
                  refine Sq.p_ 2 62 ?_ (Sq.b 18 7) rfl rfl HT_ (by kernel_rfl) (fun _ _ _ h => h) (Or.inl ⟨by rfl, ?_⟩) ?_ ?_ ?_
                  rotate_left
                  ·intro w'; go_simp; with_reducible rfl
                  rotate_left
                  ·simp only [Sq.put]; rfl
                  refine Sq.p_ 3 63 ?_ (Sq.b 18 15) rfl rfl HT_ (by kernel_rfl) (fun _ _ _ h => h) (Or.inl ⟨by rfl, ?_⟩) ?_ ?_ ?_
                  rotate_left
                  ·intro w'; go_simp; with_reducible rfl
                  rotate_left
                  ·simp only [Sq.put]; rfl
                  refine Sq.p_ 6 66 ?_ (Sq.b 18 79) rfl rfl HT_ (by kernel_rfl) (fun _ _ _ h => h) (Or.inl ⟨by rfl, ?_⟩) ?_ ?_ ?_
                  rotate_left
                  ·intro w'; go_simp; with_reducible rfl
                  rotate_left
                  ·simp only [Sq.put]; rfl
                  refine Sq.p_ 12 72 ?_ (Sq.b 18 4175) rfl rfl HT_ (by kernel_rfl) (fun _ _ _ h => h) (Or.inl ⟨by rfl, ?_⟩) ?_ ?_ ?_
                  rotate_left
                  ·intro w'; go_simp; with_reducible rfl
                  rotate_left
                  ·simp only [Sq.put]; rfl
                  refine Sq.p_ 13 73 ?_ (Sq.b 18 12367) rfl rfl HT_ (by kernel_rfl) (fun _ _ _ h => h) (Or.inl ⟨by rfl, ?_⟩) ?_ ?_ ?_
                  rotate_left
                  ·intro w'; go_simp; with_reducible rfl
                  rotate_left
                  ·simp only [Sq.put]; rfl
                  refine Sq.k 7 67 ?_ (Sq.b 18 12495) rfl rfl HT_ HW_ (by kernel_rfl) (fun _ _ _ h => h) (Or.inl ⟨by rfl, ?_⟩) hHeld ?_ ?_ ?_
                  rotate_left
                  ·rintro w' ⟨s0, s1, s2, s3, s4, s5⟩; go_simp; with_reducible rfl
                  rotate_left
                  ·simp only [Sq.put]; rfl
                  refine Sq.p_ 8 68 ?_ (Sq.b 18 12751) rfl rfl HT_ (by kernel_rfl) (fun _ _ _ h => h) (Or.inl ⟨by rfl, ?_⟩) ?_ ?_ ?_
                  rotate_left
                  ·intro w'; go_simp; with_reducible rfl
                  rotate_left
                  ·simp only [Sq.put]; rfl
                  refine Reg.size_ (fun N0_ hN0_ => ?_); refine Reg.mid_ #[true, true, true, true, true, true, true, true, true, true, true, true, true, true, true, true, false, false] [0, 1, 0, 4, 15, 31, 0, 64, 192, 448, 960, 2047, 0, 4096, 12288, 28672, 65535, 131071] [(64, 4), (65, 5), (69, 9), (70, 10), (71, 11), (74, 14), (75, 15)] [4, 5, 9, 10, 11, 14, 15] [4, 9, 14] (Reg.sel [(4, fun v_ w' => (Kd.R (Kd.int .u8) 5 w' w.heap.size (fun _ => True) v_ y892) ∧ ∀ b_, (v_ : Value).ownBlock = some b_ → N0_ ≤ b_), (5, fun v_ _ => v_ = .string (strOfNums y892)), (9, fun v_ w' => (Kd.R (Kd.int .i64) 3 w' w.heap.size (fun _ => True) v_ y895) ∧ ∀ b_, (v_ : Value).ownBlock = some b_ → N0_ ≤ b_), (10, fun v_ _ => v_ = .string t898), (11, fun v_ _ => v_ = .string ((strOfNums y892) ++ t898)), (14, fun v_ w' => (Kd.R (Kd.int .u8) 5 w' w.heap.size (fun _ => True) v_ y899) ∧ ∀ b_, (v_ : Value).ownBlock = some b_ → N0_ ≤ b_), (15, fun v_ _ => v_ = .string (strOfNums y899))]) (fun w' => (Sq.C6 w' gb864 (.int .i64 a0_0) (.int .i64 a0_1) (.int .i64 a0_2) (.int .i64 a0_3) (.slice A0_4 l0_4.length c0_4) (.slice A0_5 l0_5.length c0_5)) ∧ (N0_ ≤ w'.heap.size) ∧ (Kd.R (Kd.int .i64) 3 w' w.heap.size (fun k_ => (True) ∧ k_ < N0_) (.slice Ao77 x9_4.length co77) x9_4) ∧ (w'.heap[gb864]? = some (.cells #[.int .i64 a0_0, .int .i64 a0_1, .int .i64 a0_2, .int .i64 a0_3, .slice A0_4 l0_4.length c0_4, .slice A0_5 l0_5.length c0_5] 40 (0, 0))) ∧ (Below w.heap.size w w')) 2 (by kernel_rfl) (by kernel_rfl) (by kernel_rfl) (by kernel_rfl) rfl ?hD68_ ?hG68_ ?hS68_ ?hW68_ ?hO68_ ?hE68_
                  case hD68_ => exact Reg.sel_st ⟨fun _ _ _ h_ hb_ => ⟨Kd.R_below h_.1 hb_, h_.2⟩, fun _ _ _ h_ _ => h_, fun _ _ _ h_ hb_ => ⟨Kd.R_below h_.1 hb_, h_.2⟩, fun _ _ _ h_ _ => h_, fun _ _ _ h_ _ => h_, fun _ _ _ h_ hb_ => ⟨Kd.R_below h_.1 hb_, h_.2⟩, fun _ _ _ h_ _ => h_, trivial⟩
                  case hG68_ =>
                   rintro w1_ w2_ ⟨⟨c0_, c1_, c2_, c3_, c4_, c5_⟩, hN_, b3_, b4_, b5_⟩ hb_; exact ⟨⟨Reg.cell_step c0_ hb_, Reg.cell_step c1_ hb_, Reg.cell_step c2_ hb_, Reg.cell_step c3_ hb_, Reg.cell_step c4_ hb_, Reg.cell_step c5_ hb_⟩, Nat.le_trans hN_ (below_size hb_), (by first | exact blk_below b3_ hb_ | exact below_step b3_ hb_ | exact Kd.R_below b3_ hb_ | exact Kd.C_below b3_ hb_), (by first | exact blk_below b4_ hb_ | exact below_step b4_ hb_ | exact Kd.R_below b4_ hb_ | exact Kd.C_below b4_ hb_), (by first | exact blk_below b5_ hb_ | exact below_step b5_ hb_ | exact Kd.R_below b5_ hb_ | exact Kd.C_below b5_ hb_)⟩
                  case hS68_ => exact fun _ h_ => h_.1
                  case hW68_ => exact ⟨hHeld, Nat.le_of_eq hN0_, (Kd.R_mono (Kd.R_bound (by (with_reducible repeat (first | refine blk_drewN ?_ _ | refine blk_drew ?_ | refine blk_alloc ?_ _ | apply below_alloc | apply pw_below_drewN | apply below_drew1 | apply Kd.R_alloc | apply Kd.R_drewN | apply Kd.R_drew)); exact HO_9.out)) (fun _ hk_ => ⟨trivial, by rw [hN0_]; exact hk_.2.2.1⟩)), (by (with_reducible repeat (first | refine blk_drewN ?_ _ | refine blk_drew ?_ | refine blk_alloc ?_ _ | apply below_alloc | apply pw_below_drewN | apply below_drew1 | apply Kd.R_alloc | apply Kd.R_drewN | apply Kd.R_drew)); exact BK864.out), (by (with_reducible repeat (first | refine blk_drewN ?_ _ | refine blk_drew ?_ | refine blk_alloc ?_ _ | apply below_alloc | apply pw_below_drewN | apply below_drew1 | apply Kd.R_alloc | apply Kd.R_drewN | apply Kd.R_drew)); exact HB.out)⟩
                  case hO68_ =>
                   refine ⟨?_, ?_, ?_, ?_, ?_, ?_, ?_, trivial⟩
                   ·intro o_ ho_; simp only [Sq.ge] at ho_; subst ho_; intro u_ w1_ hG_ hP_ K hK; have hN_ := hG_.2.1; clear HO_9; clear BK864; clear HB; have HO_9 := Aside0.mk hG_.2.2.1; have BK864 := Aside0.mk hG_.2.2.2.1; have HB := Aside0.mk hG_.2.2.2.2; clear hG_; clear hP_; refine ⟨?_⟩; generalize hfr_ : Reg.frame _ _ u_ = fr_ at hK ⊢; simp only [Sq.frm] at hfr_; subst hfr_; refine Kd.R_lit_step (Kd.int .u8) _ 5 ?hg (N := 64) ?hd (xs := ([0, (x6_14) % 256, (t865) % 256] : List Int)) (inner := [.int .u8 0, .int .u8 ((x6_14) % 256), .int .u8 ((t865) % 256)]) (ok := fun _ => True) (okp := fun _ => True) ?hr ?hp (fun _ hk => hk) trivial (Below.refl _ _) (Nat.le_refl _) (by simp) ?_; (case hd => rfl); (case hg => rfl); (case hr => first | (go_simp; done) | (go_simp; rfl)); (case hp => exact (Reps.one (show Kd.M (Kd.int .u8) _ _ _ 0 [.int .u8 0] from rfl) (Reps.one (show Kd.M (Kd.int .u8) _ _ _ ((x6_14) % 256) [.int .u8 ((x6_14) % 256)] from rfl) (Reps.one (show Kd.M (Kd.int .u8) _ _ _ ((t865) % 256) [.int .u8 ((t865) % 256)] from rfl) (Reps.none _ _)))))
                    intro v893 w80 ho81 hb hg_ hnew_; (first | rw [← Ny892.out] at ho81 | (simp only [Int.reduceToNat] at ho81; rw [← Ny892.out] at ho81))
                    exact hK _ _ ⟨Kd.R_mono (Kd.R_lower ho81 (below_size HB.out)) (fun _ _ => trivial), fun b_ h_ => Nat.le_trans hN_ (Kd.R_base ho81 b_ h_)⟩ hb (fun _ b_ h_ => ⟨Kd.R_base ho81 b_ h_, Kd.R_lt ho81 b_ h_⟩)
                   ·intro o_ ho_; simp only [Sq.ge] at ho_; subst ho_; intro u_ w1_ hG_ hP_ K hK; have hN_ := hG_.2.1; clear HO_9; clear BK864; clear HB; have HO_9 := Aside0.mk hG_.2.2.1; have BK864 := Aside0.mk hG_.2.2.2.1; have HB := Aside0.mk hG_.2.2.2.2; clear hG_; obtain ⟨v893, hv4_⟩ : ∃ v_, v_ = u_ 4 := ⟨_, rfl⟩; have e4_ := hP_ 4 (by decide) (by rfl); have e4_ : (Kd.R (Kd.int .u8) 5 w1_ w.heap.size (fun _ => True) v893 y892) ∧ ∀ b_, (v893 : Value).ownBlock = some b_ → N0_ ≤ b_ := by rw [hv4_]; exact e4_
                    have HO894 := Aside0.mk e4_.1; clear e4_; clear hP_; refine ⟨?_⟩; generalize hfr_ : Reg.frame _ _ u_ = fr_ at hK ⊢; simp only [Sq.frm, ← hv4_] at hfr_; subst hfr_; clear hv4_; have hcv83 := own_string (P := Try.prog) Try.underlying28 Try.underlying5 Try.underlying9 (Kd.own_of_R HO894.out); refine value_ (w1 := ?_) (v := ?_) (by rfl) rfl ?_ ?_
                    rotate_left 2
                    ·go_simp
                     constructor
                     ·rfl
                     ·rfl
                    exact hK _ _ (by first | rfl | (simp only [i64_w, i32_w]; rfl)) (Below.refl _ _) (fun h_ => by cases h_)
                   ·intro o_ ho_; simp only [Sq.ge] at ho_; subst ho_; intro u_ w1_ hG_ hP_ K hK; have hN_ := hG_.2.1; clear HO_9; clear BK864; clear HB; have HO_9 := Aside0.mk hG_.2.2.1; have BK864 := Aside0.mk hG_.2.2.2.1; have HB := Aside0.mk hG_.2.2.2.2; clear hG_; clear hP_; refine ⟨?_⟩; generalize hfr_ : Reg.frame _ _ u_ = fr_ at hK ⊢; simp only [Sq.frm] at hfr_; subst hfr_; refine Kd.R_lit_step (Kd.int .i64) _ 3 ?hg (N := 69) ?hd (xs := ([0, (l0_4.length : Int)] : List Int)) (inner := [.int .i64 0, .int .i64 (l0_4.length : Int)]) (ok := fun _ => True) (okp := fun _ => True) ?hr ?hp (fun _ hk => hk) trivial (Below.refl _ _) (Nat.le_refl _) (by simp) ?_; (case hd => rfl); (case hg => rfl); (case hr => first | (go_simp; done) | (go_simp; rfl)); (case hp => exact (Reps.one (show Kd.M (Kd.int .i64) _ _ _ 0 [.int .i64 0] from rfl) (Reps.one (show Kd.M (Kd.int .i64) _ _ _ (l0_4.length : Int) [.int .i64 (l0_4.length : Int)] from rfl) (Reps.none _ _))))
                    intro v896 w80 ho81 hb hg_ hnew_; (first | rw [← Ny895.out] at ho81 | (simp only [Int.reduceToNat] at ho81; rw [← Ny895.out] at ho81))
                    exact hK _ _ ⟨Kd.R_mono (Kd.R_lower ho81 (below_size HB.out)) (fun _ _ => trivial), fun b_ h_ => Nat.le_trans hN_ (Kd.R_base ho81 b_ h_)⟩ hb (fun _ b_ h_ => ⟨Kd.R_base ho81 b_ h_, Kd.R_lt ho81 b_ h_⟩)
                   ·intro o_ ho_; simp only [Sq.ge] at ho_; subst ho_; intro u_ w1_ hG_ hP_ K hK; have hN_ := hG_.2.1; clear HO_9; clear BK864; clear HB; have HO_9 := Aside0.mk hG_.2.2.1; have BK864 := Aside0.mk hG_.2.2.2.1; have HB := Aside0.mk hG_.2.2.2.2; clear hG_; obtain ⟨v896, hv9_⟩ : ∃ v_, v_ = u_ 9 := ⟨_, rfl⟩; have e9_ := hP_ 9 (by decide) (by rfl); have e9_ : (Kd.R (Kd.int .i64) 3 w1_ w.heap.size (fun _ => True) v896 y895) ∧ ∀ b_, (v896 : Value).ownBlock = some b_ → N0_ ≤ b_ := by rw [hv9_]; exact e9_
                    have HO897 := Aside0.mk e9_.1; clear e9_; obtain ⟨Ao83, co83, hs_⟩ := Kd.R_slice HO897.out; subst hs_; clear hP_; refine ⟨?_⟩; generalize hfr_ : Reg.frame _ _ u_ = fr_ at hK ⊢; simp only [Sq.frm, ← hv9_] at hfr_; subst hfr_; clear hv9_; refine goes_ Try.func63 (by kernel_rfl) rfl #[.int .i64 2, .slice Ao83 y895.length co83] (by rfl) rfl rfl (by (try simp only [Sq.mp]); first | done | rfl | (simp only [List.length_drop, List.length_take]; rfl)) ?_; with_reducible refine (impl_numbers.calls k4 2 _ _ y895 t898 _ ?side1 ?side2 A67.out).mono ?_
                    (case side1 => exact Sq.c_ HO897)
                    (case side2 => exact (Kd.R_reads' HO897.out).2.1)
                    rintro e w84 ⟨rfl, hb⟩; refine ⟨_, rfl, ?_⟩; exact hK _ _ rfl hb (fun h_ => by cases h_)
                   ·intro o_ ho_; simp only [Sq.ge] at ho_; subst ho_; intro u_ w1_ hG_ hP_ K hK; have hN_ := hG_.2.1; clear HO_9; clear BK864; clear HB; have HO_9 := Aside0.mk hG_.2.2.1; have BK864 := Aside0.mk hG_.2.2.2.1; have HB := Aside0.mk hG_.2.2.2.2; clear hG_; obtain ⟨v893, hv4_⟩ : ∃ v_, v_ = u_ 4 := ⟨_, rfl⟩; have e4_ := hP_ 4 (by decide) (by rfl); have e4_ : (Kd.R (Kd.int .u8) 5 w1_ w.heap.size (fun _ => True) v893 y892) ∧ ∀ b_, (v893 : Value).ownBlock = some b_ → N0_ ≤ b_ := by rw [hv4_]; exact e4_
                    have e5_ : u_ 5 = .string (strOfNums y892) := hP_ 5 (by decide) (by rfl); obtain ⟨v896, hv9_⟩ : ∃ v_, v_ = u_ 9 := ⟨_, rfl⟩; have e9_ := hP_ 9 (by decide) (by rfl); have e9_ : (Kd.R (Kd.int .i64) 3 w1_ w.heap.size (fun _ => True) v896 y895) ∧ ∀ b_, (v896 : Value).ownBlock = some b_ → N0_ ≤ b_ := by rw [hv9_]; exact e9_
                    have e10_ : u_ 10 = .string t898 := hP_ 10 (by decide) (by rfl); have HO894 := Aside0.mk e4_.1; clear e4_; have HO897 := Aside0.mk e9_.1; clear e9_; clear hP_; refine ⟨?_⟩; generalize hfr_ : Reg.frame _ _ u_ = fr_ at hK ⊢; simp only [Sq.frm, ← hv4_, e5_, ← hv9_, e10_] at hfr_; subst hfr_; clear hv4_ e5_ hv9_ e10_; refine value_ (w1 := ?_) (v := ?_) (by rfl) rfl ?_ ?_
                    rotate_left 2
                    ·go_simp
                     constructor
                     ·rfl
                     ·rfl
                    exact hK _ _ (by first | rfl | (simp only [i64_w, i32_w]; rfl)) (Below.refl _ _) (fun h_ => by cases h_)
                   ·intro o_ ho_; simp only [Sq.ge] at ho_; subst ho_; intro u_ w1_ hG_ hP_ K hK; have hN_ := hG_.2.1; clear HO_9; clear BK864; clear HB; have HO_9 := Aside0.mk hG_.2.2.1; have BK864 := Aside0.mk hG_.2.2.2.1; have HB := Aside0.mk hG_.2.2.2.2; clear hG_; clear hP_; refine ⟨?_⟩; generalize hfr_ : Reg.frame _ _ u_ = fr_ at hK ⊢; simp only [Sq.frm] at hfr_; subst hfr_; refine Kd.R_lit_step (Kd.int .u8) _ 5 ?hg (N := 74) ?hd (xs := ([(x7_14) % 256, 0, 0, 0, 0] : List Int)) (inner := [.int .u8 ((x7_14) % 256), .int .u8 0, .int .u8 0, .int .u8 0, .int .u8 0]) (ok := fun _ => True) (okp := fun _ => True) ?hr ?hp (fun _ hk => hk) trivial (Below.refl _ _) (Nat.le_refl _) (by simp) ?_; (case hd => rfl); (case hg => rfl); (case hr => first | (go_simp; done) | (go_simp; rfl)); (case hp => exact (Reps.one (show Kd.M (Kd.int .u8) _ _ _ ((x7_14) % 256) [.int .u8 ((x7_14) % 256)] from rfl) (Reps.one (show Kd.M (Kd.int .u8) _ _ _ 0 [.int .u8 0] from rfl) (Reps.one (show Kd.M (Kd.int .u8) _ _ _ 0 [.int .u8 0] from rfl) (Reps.one (show Kd.M (Kd.int .u8) _ _ _ 0 [.int .u8 0] from rfl) (Reps.one (show Kd.M (Kd.int .u8) _ _ _ 0 [.int .u8 0] from rfl) (Reps.none _ _)))))))
                    intro v900 w80 ho81 hb hg_ hnew_; (first | rw [← Ny899.out] at ho81 | (simp only [Int.reduceToNat] at ho81; rw [← Ny899.out] at ho81))
                    exact hK _ _ ⟨Kd.R_mono (Kd.R_lower ho81 (below_size HB.out)) (fun _ _ => trivial), fun b_ h_ => Nat.le_trans hN_ (Kd.R_base ho81 b_ h_)⟩ hb (fun _ b_ h_ => ⟨Kd.R_base ho81 b_ h_, Kd.R_lt ho81 b_ h_⟩)
                   ·intro o_ ho_; simp only [Sq.ge] at ho_; subst ho_; intro u_ w1_ hG_ hP_ K hK; have hN_ := hG_.2.1; clear HO_9; clear BK864; clear HB; have HO_9 := Aside0.mk hG_.2.2.1; have BK864 := Aside0.mk hG_.2.2.2.1; have HB := Aside0.mk hG_.2.2.2.2; clear hG_; obtain ⟨v900, hv14_⟩ : ∃ v_, v_ = u_ 14 := ⟨_, rfl⟩; have e14_ := hP_ 14 (by decide) (by rfl); have e14_ : (Kd.R (Kd.int .u8) 5 w1_ w.heap.size (fun _ => True) v900 y899) ∧ ∀ b_, (v900 : Value).ownBlock = some b_ → N0_ ≤ b_ := by rw [hv14_]; exact e14_
                    have HO901 := Aside0.mk e14_.1; clear e14_; clear hP_; refine ⟨?_⟩; generalize hfr_ : Reg.frame _ _ u_ = fr_ at hK ⊢; simp only [Sq.frm, ← hv14_] at hfr_; subst hfr_; clear hv14_; have hcv83 := own_string (P := Try.prog) Try.underlying28 Try.underlying5 Try.underlying9 (Kd.own_of_R HO901.out); refine value_ (w1 := ?_) (v := ?_) (by rfl) rfl ?_ ?_
                    rotate_left 2
                    ·go_simp
                     constructor
                     ·rfl
                     ·rfl
                    exact hK _ _ (by first | rfl | (simp only [i64_w, i32_w]; rfl)) (Below.refl _ _) (fun h_ => by cases h_)
                  intro u_ w90 hG_ hQ_ hA_; obtain ⟨hS_, hN_, h3_, h4_, h5_⟩ := hG_; obtain ⟨v893, hv4_⟩ : ∃ v_, v_ = u_ 4 := ⟨_, rfl⟩; have e4_ := hQ_ 4 (by decide); have e4_ : (Kd.R (Kd.int .u8) 5 w90 w.heap.size (fun _ => True) v893 y892) ∧ ∀ b_, (v893 : Value).ownBlock = some b_ → N0_ ≤ b_ := by rw [hv4_]; exact e4_
                  have e5_ : u_ 5 = .string (strOfNums y892) := hQ_ 5 (by decide); obtain ⟨v896, hv9_⟩ : ∃ v_, v_ = u_ 9 := ⟨_, rfl⟩; have e9_ := hQ_ 9 (by decide); have e9_ : (Kd.R (Kd.int .i64) 3 w90 w.heap.size (fun _ => True) v896 y895) ∧ ∀ b_, (v896 : Value).ownBlock = some b_ → N0_ ≤ b_ := by rw [hv9_]; exact e9_
                  have e10_ : u_ 10 = .string t898 := hQ_ 10 (by decide); have e11_ : u_ 11 = .string ((strOfNums y892) ++ t898) := hQ_ 11 (by decide); obtain ⟨v900, hv14_⟩ : ∃ v_, v_ = u_ 14 := ⟨_, rfl⟩; have e14_ := hQ_ 14 (by decide); have e14_ : (Kd.R (Kd.int .u8) 5 w90 w.heap.size (fun _ => True) v900 y899) ∧ ∀ b_, (v900 : Value).ownBlock = some b_ → N0_ ≤ b_ := by rw [hv14_]; exact e14_
                  have e15_ : u_ 15 = .string (strOfNums y899) := hQ_ 15 (by decide); have h3_o := h3_; have h0_ : Kd.R (Kd.int .u8) 5 w90 w.heap.size (fun k_ => some k_ ≠ (v900 : Value).ownBlock) v893 y892 := Kd.R_mono (Kd.R_tight rfl e4_.1) (fun k_ hk_ => (by have h_ := hA_ 4 (by decide) 14 (by decide) rfl rfl (by decide); rw [← hv4_, ← hv14_] at h_; exact h_ k_ hk_.symm)); have h1_ : Kd.R (Kd.int .i64) 3 w90 w.heap.size (fun k_ => some k_ ≠ (.slice Ao77 x9_4.length co77 : Value).ownBlock) v896 y895 := Kd.R_mono (Kd.R_tight rfl e9_.1) (fun k_ hk_ => (fun h_ => by have h1_ := (h3_o.1 _ h_.symm).2; have h2_ := e9_.2 _ hk_.symm; omega)); have h2_ : Kd.R (Kd.int .u8) 5 w90 w.heap.size (fun k_ => some k_ ≠ (v893 : Value).ownBlock) v900 y899 := Kd.R_mono (Kd.R_tight rfl e14_.1) (fun k_ hk_ => (by have h_ := hA_ 14 (by decide) 4 (by decide) rfl rfl (by decide); rw [← hv14_, ← hv4_] at h_; exact h_ k_ hk_.symm)); have h3_ : Kd.R (Kd.int .i64) 3 w90 w.heap.size (fun k_ => some k_ ≠ (v896 : Value).ownBlock) (.slice Ao77 x9_4.length co77) x9_4 := Kd.R_mono (h3_o) (fun k_ hk_ => (fun h_ => by have h1_ := e9_.2 _ h_.symm; have h2_ := hk_.2; omega)); clear h3_o; clear e4_; clear e9_; clear e14_; refine ⟨?_⟩; generalize hfr_ : Reg.frame _ _ u_ = fr_; simp only [Sq.frm, ← hv4_, e5_, ← hv9_, e10_, e11_, ← hv14_, e15_] at hfr_; subst hfr_; clear hQ_ hA_ hN_ hN0_ hv4_ hv9_ hv14_ e5_ e10_ e11_ e15_; have n0_ : Aside0 (Kd.R (Kd.int .u8) 5 w90 w.heap.size (fun k_ => some k_ ≠ (v900 : Value).ownBlock) v893 y892) := ⟨h0_⟩; have n1_ : Aside0 (Kd.R (Kd.int .i64) 3 w90 w.heap.size (fun k_ => some k_ ≠ (.slice Ao77 x9_4.length co77 : Value).ownBlock) v896 y895) := ⟨h1_⟩; have n2_ : Aside0 (Kd.R (Kd.int .u8) 5 w90 w.heap.size (fun k_ => some k_ ≠ (v893 : Value).ownBlock) v900 y899) := ⟨h2_⟩; have n3_ : Aside0 (Kd.R (Kd.int .i64) 3 w90 w.heap.size (fun k_ => some k_ ≠ (v896 : Value).ownBlock) (.slice Ao77 x9_4.length co77) x9_4) := ⟨h3_⟩
                  have n4_ : Aside0 (w90.heap[gb864]? = some (.cells #[.int .i64 a0_0, .int .i64 a0_1, .int .i64 a0_2, .int .i64 a0_3, .slice A0_4 l0_4.length c0_4, .slice A0_5 l0_5.length c0_5] 40 (0, 0))) := ⟨h4_⟩; have n5_ : Aside0 (Below w.heap.size w w90) := ⟨h5_⟩; clear HO_9; clear BK864; clear HB; clear h0_ h1_ h2_ h3_ h4_ h5_; have HO894 := n0_; have HO897 := n1_; have HO901 := n2_; have HO_9 := n3_; have BK864 := n4_; have HB := n5_; clear n0_ n1_ n2_ n3_ n4_ n5_; have hHeld : Sq.C6 w90 gb864 (.int .i64 a0_0) (.int .i64 a0_1) (.int .i64 a0_2) (.int .i64 a0_3) (.slice A0_4 l0_4.length c0_4) (.slice A0_5 l0_5.length c0_5) := hS_; refine Sq.p_ 16 76 ?_ (Sq.b 18 131071) rfl rfl HT_ (by kernel_rfl) (fun _ _ _ h => h) (Or.inl ⟨by rfl, ?_⟩) ?_ ?_ ?_
                  rotate_left
                  ·intro w'; go_simp; with_reducible rfl
                  rotate_left
                  ·simp only [Sq.put]; rfl
                  refine Sq.p_ 17 14 ?_ (Sq.b 18 262143) rfl rfl HT_ (by kernel_rfl) (fun _ _ _ h => h) (Or.inl ⟨by rfl, ?_⟩) ?_ ?_ ?_
                  rotate_left
                  ·intro w'; go_simp; with_reducible rfl
                  rotate_left
                  ·simp only [Sq.put]; rfl
                  refine done_ (done_of HT_.out (by kernel_rfl)) ?_; try go_wp2
                  have n0_ := Aside0.mk (Kd.R_drew HO_9.out); have n1_ := Aside0.mk (Kd.R_drew HO894.out); have n2_ := Aside0.mk (Kd.R_drew HO897.out); have n3_ := Aside0.mk (Kd.R_drew HO901.out); have n4_ := Aside0.mk (blk_drew BK864.out); have n5_ := Aside0.mk (below_drew1 HB.out); clear HO_9; clear HO894; clear HO897; clear HO901; clear BK864; clear HB; have HO_9 := n0_; have HO894 := n1_; have HO897 := n2_; have HO901 := n3_; have BK864 := n4_; have HB := n5_; clear n0_ n1_ n2_ n3_ n4_ n5_; refine start_ (n := 23) (S := fun w' => Sq.C6 w' gb864 (.int .i64 a0_0) (.int .i64 a0_1) (.int .i64 a0_2) (.int .i64 a0_3) (.slice A0_4 l0_4.length c0_4) (.slice A0_5 l0_5.length c0_5)) (ds := []) #[false, false, false, false, false, false, false, false, false, false, false, false, false, false, false, false, false, false, false, false, false, false, false] (by kernel_rfl) rfl rfl (Sq.c6 BK864) (fun hHeld => ?_); refine with_tabW impl_TgaPut.tab21 impl_TgaPut.bits21 (fun HT_ HW_ => ?_)
                  generalize w90.drew = w91 at HO_9 HO894 HO897 HO901 BK864 HB hHeld ⊢; refine Sq.p_ 0 77 ?_ (Sq.b 23 1) rfl rfl HT_ (by kernel_rfl) (fun _ _ _ h => h) (Or.inl ⟨by rfl, ?_⟩) ?_ ?_ ?_
                  rotate_left
                  ·intro w'; go_simp; with_reducible rfl
                  rotate_left
                  ·simp only [Sq.put]; rfl
                  refine Sq.p_ 1 78 ?_ (Sq.b 23 3) rfl rfl HT_ (by kernel_rfl) (fun _ _ _ h => h) (Or.inl ⟨by rfl, ?_⟩) ?_ ?_ ?_
                  rotate_left
                  ·intro w'; go_simp; with_reducible rfl
                  rotate_left
                  ·simp only [Sq.put]; rfl
                  refine Sq.p_ 3 80 ?_ (Sq.b 23 11) rfl rfl HT_ (by kernel_rfl) (fun _ _ _ h => h) (Or.inl ⟨by rfl, ?_⟩) ?_ ?_ ?_
                  rotate_left
                  ·intro w'; go_simp; with_reducible rfl
                  rotate_left
                  ·simp only [Sq.put]; rfl
                  refine Sq.p_ 8 85 ?_ (Sq.b 23 267) rfl rfl HT_ (by kernel_rfl) (fun _ _ _ h => h) (Or.inl ⟨by rfl, ?_⟩) ?_ ?_ ?_
                  rotate_left
                  ·intro w'; go_simp; with_reducible rfl
                  rotate_left
                  ·simp only [Sq.put]; rfl
                  refine Sq.p_ 11 88 ?_ (Sq.b 23 2315) rfl rfl HT_ (by kernel_rfl) (fun _ _ _ h => h) (Or.inl ⟨by rfl, ?_⟩) ?_ ?_ ?_
                  rotate_left
                  ·intro w'; go_simp; with_reducible rfl
                  rotate_left
                  ·simp only [Sq.put]; rfl
                  refine Sq.p_ 12 89 ?_ (Sq.b 23 6411) rfl rfl HT_ (by kernel_rfl) (fun _ _ _ h => h) (Or.inl ⟨by rfl, ?_⟩) ?_ ?_ ?_
                  rotate_left
                  ·intro w'; go_simp; with_reducible rfl
                  rotate_left
                  ·simp only [Sq.put]; rfl
                  refine Sq.p_ 16 93 ?_ (Sq.b 23 71947) rfl rfl HT_ (by kernel_rfl) (fun _ _ _ h => h) (Or.inl ⟨by rfl, ?_⟩) ?_ ?_ ?_
                  rotate_left
                  ·intro w'; go_simp; with_reducible rfl
                  rotate_left
                  ·simp only [Sq.put]; rfl
                  refine Sq.p_ 20 97 ?_ (Sq.b 23 1120523) rfl rfl HT_ (by kernel_rfl) (fun _ _ _ h => h) (Or.inl ⟨by rfl, ?_⟩) ?_ ?_ ?_
                  rotate_left
                  ·intro w'; go_simp; with_reducible rfl
                  rotate_left
                  ·simp only [Sq.put]; rfl
                  refine Sq.k 2 79 ?_ (Sq.b 23 1120527) rfl rfl HT_ HW_ (by kernel_rfl) (fun _ _ _ h => h) (Or.inl ⟨by rfl, ?_⟩) hHeld ?_ ?_ ?_
                  rotate_left
                  ·rintro w' ⟨s0, s1, s2, s3, s4, s5⟩; go_simp; with_reducible rfl
                  rotate_left
                  ·simp only [Sq.put]; rfl
                  refine Sq.k 4 81 ?_ (Sq.b 23 1120543) rfl rfl HT_ HW_ (by kernel_rfl) (fun _ _ _ h => h) (Or.inl ⟨by rfl, ?_⟩) hHeld ?_ ?_ ?_
                  rotate_left
                  ·rintro w' ⟨s0, s1, s2, s3, s4, s5⟩; go_simp; with_reducible rfl
                  rotate_left
                  ·simp only [Sq.put]; rfl
                  refine Sq.k 9 86 ?_ (Sq.b 23 1121055) rfl rfl HT_ HW_ (by kernel_rfl) (fun _ _ _ h => h) (Or.inl ⟨by rfl, ?_⟩) hHeld ?_ ?_ ?_
                  rotate_left
                  ·rintro w' ⟨s0, s1, s2, s3, s4, s5⟩; go_simp; with_reducible rfl
                  rotate_left
                  ·simp only [Sq.put]; rfl
                  refine Sq.p_ 10 87 ?_ (Sq.b 23 1122079) rfl rfl HT_ (by kernel_rfl) (fun _ _ _ h => h) (Or.inl ⟨by rfl, ?_⟩) ?_ ?_ ?_
                  rotate_left
                  ·intro w'; go_simp; with_reducible rfl
                  rotate_left
                  ·simp only [Sq.put]; rfl
                  refine Sq.k 17 94 ?_ (Sq.b 23 1253151) rfl rfl HT_ HW_ (by kernel_rfl) (fun _ _ _ h => h) (Or.inl ⟨by rfl, ?_⟩) hHeld ?_ ?_ ?_
                  rotate_left
                  ·rintro w' ⟨s0, s1, s2, s3, s4, s5⟩; go_simp; with_reducible rfl
                  rotate_left
                  ·simp only [Sq.put]; rfl
                  refine Reg.size_ (fun N0_ hN0_ => ?_)
                  refine Reg.mid_ #[true, true, true, true, true, true, true, true, true, true, true, true, true, true, true, true, true, true, true, false, true, false, false] [0, 0, 2, 0, 8, 30, 62, 127, 0, 256, 768, 0, 2048, 7936, 16128, 32767, 0, 65536, 196734, 524287, 0, 2097151, 4194303] [(82, 5), (83, 6), (84, 7), (90, 13), (91, 14), (92, 15), (95, 18)] [5, 6, 7, 13, 14, 15, 18] [5, 13] (Reg.sel [(5, fun v_ w' => (Kd.R (Kd.int .i64) 3 w' w.heap.size (fun _ => True) v_ y902) ∧ ∀ b_, (v_ : Value).ownBlock = some b_ → N0_ ≤ b_), (6, fun v_ _ => v_ = .string t905), (7, fun v_ _ => v_ = .string ((((strOfNums y892) ++ t898) ++ (strOfNums y899)) ++ t905)), (13, fun v_ w' => (Kd.R (Kd.int .u8) 5 w' w.heap.size (fun _ => True) v_ y906) ∧ ∀ b_, (v_ : Value).ownBlock = some b_ → N0_ ≤ b_), (14, fun v_ _ => v_ = .string (strOfNums y906)), (15, fun v_ _ => v_ = .string (((((strOfNums y892) ++ t898) ++ (strOfNums y899)) ++ t905) ++ (strOfNums y906))), (18, fun v_ _ => v_ = .string t909)]) (fun w' => (Sq.C6 w' gb864 (.int .i64 a0_0) (.int .i64 a0_1) (.int .i64 a0_2) (.int .i64 a0_3) (.slice A0_4 l0_4.length c0_4) (.slice A0_5 l0_5.length c0_5)) ∧ (N0_ ≤ w'.heap.size) ∧ (Kd.R (Kd.int .u8) 5 w' w.heap.size (fun k_ => (some k_ ≠ (v900 : Value).ownBlock) ∧ k_ < N0_) v893 y892) ∧ (Kd.R (Kd.int .i64) 3 w' w.heap.size (fun k_ => (some k_ ≠ (.slice Ao77 x9_4.length co77 : Value).ownBlock) ∧ k_ < N0_) v896 y895) ∧ (Kd.R (Kd.int .u8) 5 w' w.heap.size (fun k_ => (some k_ ≠ (v893 : Value).ownBlock) ∧ k_ < N0_) v900 y899) ∧ (Kd.R (Kd.int .i64) 3 w' w.heap.size (fun k_ => (some k_ ≠ (v896 : Value).ownBlock) ∧ k_ < N0_) (.slice Ao77 x9_4.length co77) x9_4) ∧ (w'.heap[gb864]? = some (.cells #[.int .i64 a0_0, .int .i64 a0_1, .int .i64 a0_2, .int .i64 a0_3, .slice A0_4 l0_4.length c0_4, .slice A0_5 l0_5.length c0_5] 40 (0, 0))) ∧ (Below w.heap.size w w')) 3 (by kernel_rfl) (by kernel_rfl) (by kernel_rfl) (by kernel_rfl) rfl ?hD86_ ?hG86_ ?hS86_ ?hW86_ ?hO86_ ?hE86_
                  case hD86_ => exact Reg.sel_st ⟨fun _ _ _ h_ hb_ => ⟨Kd.R_below h_.1 hb_, h_.2⟩, fun _ _ _ h_ _ => h_, fun _ _ _ h_ _ => h_, fun _ _ _ h_ hb_ => ⟨Kd.R_below h_.1 hb_, h_.2⟩, fun _ _ _ h_ _ => h_, fun _ _ _ h_ _ => h_, fun _ _ _ h_ _ => h_, trivial⟩
                  case hG86_ =>
                   rintro w1_ w2_ ⟨⟨c0_, c1_, c2_, c3_, c4_, c5_⟩, hN_, b0_, b1_, b2_, b5_, b6_, b7_⟩ hb_; exact ⟨⟨Reg.cell_step c0_ hb_, Reg.cell_step c1_ hb_, Reg.cell_step c2_ hb_, Reg.cell_step c3_ hb_, Reg.cell_step c4_ hb_, Reg.cell_step c5_ hb_⟩, Nat.le_trans hN_ (below_size hb_), (by first | exact blk_below b0_ hb_ | exact below_step b0_ hb_ | exact Kd.R_below b0_ hb_ | exact Kd.C_below b0_ hb_), (by first | exact blk_below b1_ hb_ | exact below_step b1_ hb_ | exact Kd.R_below b1_ hb_ | exact Kd.C_below b1_ hb_), (by first | exact blk_below b2_ hb_ | exact below_step b2_ hb_ | exact Kd.R_below b2_ hb_ | exact Kd.C_below b2_ hb_), (by first | exact blk_below b5_ hb_ | exact below_step b5_ hb_ | exact Kd.R_below b5_ hb_ | exact Kd.C_below b5_ hb_), (by first | exact blk_below b6_ hb_ | exact below_step b6_ hb_ | exact Kd.R_below b6_ hb_ | exact Kd.C_below b6_ hb_), (by first | exact blk_below b7_ hb_ | exact below_step b7_ hb_ | exact Kd.R_below b7_ hb_ | exact Kd.C_below b7_ hb_)⟩
                  case hS86_ => exact fun _ h_ => h_.1
                  case hW86_ => exact ⟨hHeld, Nat.le_of_eq hN0_, (Kd.R_mono (Kd.R_bound (by (with_reducible repeat (first | refine blk_drewN ?_ _ | refine blk_drew ?_ | refine blk_alloc ?_ _ | apply below_alloc | apply pw_below_drewN | apply below_drew1 | apply Kd.R_alloc | apply Kd.R_drewN | apply Kd.R_drew)); exact HO894.out)) (fun _ hk_ => ⟨hk_.1, by rw [hN0_]; exact hk_.2.2.1⟩)), (Kd.R_mono (Kd.R_bound (by (with_reducible repeat (first | refine blk_drewN ?_ _ | refine blk_drew ?_ | refine blk_alloc ?_ _ | apply below_alloc | apply pw_below_drewN | apply below_drew1 | apply Kd.R_alloc | apply Kd.R_drewN | apply Kd.R_drew)); exact HO897.out)) (fun _ hk_ => ⟨hk_.1, by rw [hN0_]; exact hk_.2.2.1⟩)), (Kd.R_mono (Kd.R_bound (by (with_reducible repeat (first | refine blk_drewN ?_ _ | refine blk_drew ?_ | refine blk_alloc ?_ _ | apply below_alloc | apply pw_below_drewN | apply below_drew1 | apply Kd.R_alloc | apply Kd.R_drewN | apply Kd.R_drew)); exact HO901.out)) (fun _ hk_ => ⟨hk_.1, by rw [hN0_]; exact hk_.2.2.1⟩)), (Kd.R_mono (Kd.R_bound (by (with_reducible repeat (first | refine blk_drewN ?_ _ | refine blk_drew ?_ | refine blk_alloc ?_ _ | apply below_alloc | apply pw_below_drewN | apply below_drew1 | apply Kd.R_alloc | apply Kd.R_drewN | apply Kd.R_drew)); exact HO_9.out)) (fun _ hk_ => ⟨hk_.1, by rw [hN0_]; exact hk_.2.2.1⟩)), (by (with_reducible repeat (first | refine blk_drewN ?_ _ | refine blk_drew ?_ | refine blk_alloc ?_ _ | apply below_alloc | apply pw_below_drewN | apply below_drew1 | apply Kd.R_alloc | apply Kd.R_drewN | apply Kd.R_drew)); exact BK864.out), (by (with_reducible repeat (first | refine blk_drewN ?_ _ | refine blk_drew ?_ | refine blk_alloc ?_ _ | apply below_alloc | apply pw_below_drewN | apply below_drew1 | apply Kd.R_alloc | apply Kd.R_drewN | apply Kd.R_drew)); exact HB.out)⟩
                  case hO86_ =>
                   refine ⟨?_, ?_, ?_, ?_, ?_, ?_, ?_, trivial⟩
                   ·intro o_ ho_; simp only [Sq.ge] at ho_; subst ho_; intro u_ w1_ hG_ hP_ K hK; have hN_ := hG_.2.1; clear HO894; clear HO897; clear HO901; clear HO_9; clear BK864; clear HB; have HO894 := Aside0.mk hG_.2.2.1; have HO897 := Aside0.mk hG_.2.2.2.1; have HO901 := Aside0.mk hG_.2.2.2.2.1; have HO_9 := Aside0.mk hG_.2.2.2.2.2.1; have BK864 := Aside0.mk hG_.2.2.2.2.2.2.1; have HB := Aside0.mk hG_.2.2.2.2.2.2.2; clear hG_; clear hP_; refine ⟨?_⟩; generalize hfr_ : Reg.frame _ _ u_ = fr_ at hK ⊢; simp only [Sq.frm] at hfr_; subst hfr_; refine Kd.R_lit_step (Kd.int .i64) _ 3 ?hg (N := 82) ?hd (xs := ([a0_2, a0_3] : List Int)) (inner := [.int .i64 a0_2, .int .i64 a0_3]) (ok := fun _ => True) (okp := fun _ => True) ?hr ?hp (fun _ hk => hk) trivial (Below.refl _ _) (Nat.le_refl _) (by simp) ?_; (case hd => rfl); (case hg => rfl); (case hr => first | (go_simp; done) | (go_simp; rfl)); (case hp => exact (Reps.one (show Kd.M (Kd.int .i64) _ _ _ a0_2 [.int .i64 a0_2] from rfl) (Reps.one (show Kd.M (Kd.int .i64) _ _ _ a0_3 [.int .i64 a0_3] from rfl) (Reps.none _ _))))
                    intro v903 w92 ho93 hb hg_ hnew_; (first | rw [← Ny902.out] at ho93 | (simp only [Int.reduceToNat] at ho93; rw [← Ny902.out] at ho93))
                    exact hK _ _ ⟨Kd.R_mono (Kd.R_lower ho93 (below_size HB.out)) (fun _ _ => trivial), fun b_ h_ => Nat.le_trans hN_ (Kd.R_base ho93 b_ h_)⟩ hb (fun _ b_ h_ => ⟨Kd.R_base ho93 b_ h_, Kd.R_lt ho93 b_ h_⟩)
                   ·intro o_ ho_; simp only [Sq.ge] at ho_; subst ho_; intro u_ w1_ hG_ hP_ K hK; have hN_ := hG_.2.1; clear HO894; clear HO897; clear HO901; clear HO_9; clear BK864; clear HB; have HO894 := Aside0.mk hG_.2.2.1; have HO897 := Aside0.mk hG_.2.2.2.1; have HO901 := Aside0.mk hG_.2.2.2.2.1; have HO_9 := Aside0.mk hG_.2.2.2.2.2.1; have BK864 := Aside0.mk hG_.2.2.2.2.2.2.1; have HB := Aside0.mk hG_.2.2.2.2.2.2.2; clear hG_; obtain ⟨v903, hv5_⟩ : ∃ v_, v_ = u_ 5 := ⟨_, rfl⟩; have e5_ := hP_ 5 (by decide) (by rfl); have e5_ : (Kd.R (Kd.int .i64) 3 w1_ w.heap.size (fun _ => True) v903 y902) ∧ ∀ b_, (v903 : Value).ownBlock = some b_ → N0_ ≤ b_ := by rw [hv5_]; exact e5_
                    have HO904 := Aside0.mk e5_.1; clear e5_; obtain ⟨Ao95, co95, hs_⟩ := Kd.R_slice HO904.out; subst hs_; clear hP_; refine ⟨?_⟩; generalize hfr_ : Reg.frame _ _ u_ = fr_ at hK ⊢; simp only [Sq.frm, ← hv5_] at hfr_; subst hfr_; clear hv5_; refine goes_ Try.func63 (by kernel_rfl) rfl #[.int .i64 2, .slice Ao95 y902.length co95] (by rfl) rfl rfl (by (try simp only [Sq.mp]); first | done | rfl | (simp only [List.length_drop, List.length_take]; rfl)) ?_; with_reducible refine (impl_numbers.calls k4 2 _ _ y902 t905 _ ?side1 ?side2 A70.out).mono ?_
                    (case side1 => exact Sq.c_ HO904)
                    (case side2 => exact (Kd.R_reads' HO904.out).2.1)
                    rintro e w96 ⟨rfl, hb⟩; refine ⟨_, rfl, ?_⟩; exact hK _ _ rfl hb (fun h_ => by cases h_)
                   ·intro o_ ho_; simp only [Sq.ge] at ho_; subst ho_; intro u_ w1_ hG_ hP_ K hK; have hN_ := hG_.2.1; clear HO894; clear HO897; clear HO901; clear HO_9; clear BK864; clear HB; have HO894 := Aside0.mk hG_.2.2.1; have HO897 := Aside0.mk hG_.2.2.2.1; have HO901 := Aside0.mk hG_.2.2.2.2.1; have HO_9 := Aside0.mk hG_.2.2.2.2.2.1; have BK864 := Aside0.mk hG_.2.2.2.2.2.2.1; have HB := Aside0.mk hG_.2.2.2.2.2.2.2; clear hG_; obtain ⟨v903, hv5_⟩ : ∃ v_, v_ = u_ 5 := ⟨_, rfl⟩; have e5_ := hP_ 5 (by decide) (by rfl); have e5_ : (Kd.R (Kd.int .i64) 3 w1_ w.heap.size (fun _ => True) v903 y902) ∧ ∀ b_, (v903 : Value).ownBlock = some b_ → N0_ ≤ b_ := by rw [hv5_]; exact e5_
                    have e6_ : u_ 6 = .string t905 := hP_ 6 (by decide) (by rfl); have HO904 := Aside0.mk e5_.1; clear e5_; clear hP_; refine ⟨?_⟩; generalize hfr_ : Reg.frame _ _ u_ = fr_ at hK ⊢; simp only [Sq.frm, ← hv5_, e6_] at hfr_; subst hfr_; clear hv5_ e6_; refine value_ (w1 := ?_) (v := ?_) (by rfl) rfl ?_ ?_
                    rotate_left 2
                    ·go_simp
                     constructor
                     ·rfl
                     ·rfl
                    exact hK _ _ (by first | rfl | (simp only [i64_w, i32_w]; rfl)) (Below.refl _ _) (fun h_ => by cases h_)
                   ·intro o_ ho_; simp only [Sq.ge] at ho_; subst ho_; intro u_ w1_ hG_ hP_ K hK; have hN_ := hG_.2.1; clear HO894; clear HO897; clear HO901; clear HO_9; clear BK864; clear HB; have HO894 := Aside0.mk hG_.2.2.1; have HO897 := Aside0.mk hG_.2.2.2.1; have HO901 := Aside0.mk hG_.2.2.2.2.1; have HO_9 := Aside0.mk hG_.2.2.2.2.2.1; have BK864 := Aside0.mk hG_.2.2.2.2.2.2.1; have HB := Aside0.mk hG_.2.2.2.2.2.2.2; clear hG_; clear hP_; refine ⟨?_⟩; generalize hfr_ : Reg.frame _ _ u_ = fr_ at hK ⊢; simp only [Sq.frm] at hfr_; subst hfr_; refine Kd.R_lit_step (Kd.int .u8) _ 5 ?hg (N := 90) ?hd (xs := ([(a0_1) % 256, (x8_17) % 256] : List Int)) (inner := [.int .u8 ((a0_1) % 256), .int .u8 ((x8_17) % 256)]) (ok := fun _ => True) (okp := fun _ => True) ?hr ?hp (fun _ hk => hk) trivial (Below.refl _ _) (Nat.le_refl _) (by simp) ?_; (case hd => rfl); (case hg => rfl); (case hr => first | (go_simp; done) | (go_simp; rfl)); (case hp => exact (Reps.one (show Kd.M (Kd.int .u8) _ _ _ ((a0_1) % 256) [.int .u8 ((a0_1) % 256)] from rfl) (Reps.one (show Kd.M (Kd.int .u8) _ _ _ ((x8_17) % 256) [.int .u8 ((x8_17) % 256)] from rfl) (Reps.none _ _))))
                    intro v907 w92 ho93 hb hg_ hnew_; (first | rw [← Ny906.out] at ho93 | (simp only [Int.reduceToNat] at ho93; rw [← Ny906.out] at ho93))
                    exact hK _ _ ⟨Kd.R_mono (Kd.R_lower ho93 (below_size HB.out)) (fun _ _ => trivial), fun b_ h_ => Nat.le_trans hN_ (Kd.R_base ho93 b_ h_)⟩ hb (fun _ b_ h_ => ⟨Kd.R_base ho93 b_ h_, Kd.R_lt ho93 b_ h_⟩)
                   ·intro o_ ho_; simp only [Sq.ge] at ho_; subst ho_; intro u_ w1_ hG_ hP_ K hK; have hN_ := hG_.2.1; clear HO894; clear HO897; clear HO901; clear HO_9; clear BK864; clear HB; have HO894 := Aside0.mk hG_.2.2.1; have HO897 := Aside0.mk hG_.2.2.2.1; have HO901 := Aside0.mk hG_.2.2.2.2.1; have HO_9 := Aside0.mk hG_.2.2.2.2.2.1; have BK864 := Aside0.mk hG_.2.2.2.2.2.2.1; have HB := Aside0.mk hG_.2.2.2.2.2.2.2; clear hG_; obtain ⟨v907, hv13_⟩ : ∃ v_, v_ = u_ 13 := ⟨_, rfl⟩; have e13_ := hP_ 13 (by decide) (by rfl); have e13_ : (Kd.R (Kd.int .u8) 5 w1_ w.heap.size (fun _ => True) v907 y906) ∧ ∀ b_, (v907 : Value).ownBlock = some b_ → N0_ ≤ b_ := by rw [hv13_]; exact e13_
                    have HO908 := Aside0.mk e13_.1; clear e13_; clear hP_; refine ⟨?_⟩; generalize hfr_ : Reg.frame _ _ u_ = fr_ at hK ⊢; simp only [Sq.frm, ← hv13_] at hfr_; subst hfr_; clear hv13_; have hcv95 := own_string (P := Try.prog) Try.underlying28 Try.underlying5 Try.underlying9 (Kd.own_of_R HO908.out); refine value_ (w1 := ?_) (v := ?_) (by rfl) rfl ?_ ?_
                    rotate_left 2
                    ·go_simp
                     constructor
                     ·rfl
                     ·rfl
                    exact hK _ _ (by first | rfl | (simp only [i64_w, i32_w]; rfl)) (Below.refl _ _) (fun h_ => by cases h_)
                   ·intro o_ ho_; simp only [Sq.ge] at ho_; subst ho_; intro u_ w1_ hG_ hP_ K hK; have hN_ := hG_.2.1; clear HO894; clear HO897; clear HO901; clear HO_9; clear BK864; clear HB; have HO894 := Aside0.mk hG_.2.2.1; have HO897 := Aside0.mk hG_.2.2.2.1; have HO901 := Aside0.mk hG_.2.2.2.2.1; have HO_9 := Aside0.mk hG_.2.2.2.2.2.1; have BK864 := Aside0.mk hG_.2.2.2.2.2.2.1; have HB := Aside0.mk hG_.2.2.2.2.2.2.2; clear hG_; obtain ⟨v903, hv5_⟩ : ∃ v_, v_ = u_ 5 := ⟨_, rfl⟩; have e5_ := hP_ 5 (by decide) (by rfl); have e5_ : (Kd.R (Kd.int .i64) 3 w1_ w.heap.size (fun _ => True) v903 y902) ∧ ∀ b_, (v903 : Value).ownBlock = some b_ → N0_ ≤ b_ := by rw [hv5_]; exact e5_
                    have e6_ : u_ 6 = .string t905 := hP_ 6 (by decide) (by rfl); have e7_ : u_ 7 = .string ((((strOfNums y892) ++ t898) ++ (strOfNums y899)) ++ t905) := hP_ 7 (by decide) (by rfl); obtain ⟨v907, hv13_⟩ : ∃ v_, v_ = u_ 13 := ⟨_, rfl⟩; have e13_ := hP_ 13 (by decide) (by rfl); have e13_ : (Kd.R (Kd.int .u8) 5 w1_ w.heap.size (fun _ => True) v907 y906) ∧ ∀ b_, (v907 : Value).ownBlock = some b_ → N0_ ≤ b_ := by rw [hv13_]; exact e13_
                    have e14_ : u_ 14 = .string (strOfNums y906) := hP_ 14 (by decide) (by rfl); have HO904 := Aside0.mk e5_.1; clear e5_; have HO908 := Aside0.mk e13_.1; clear e13_; clear hP_; refine ⟨?_⟩; generalize hfr_ : Reg.frame _ _ u_ = fr_ at hK ⊢; simp only [Sq.frm, ← hv5_, e6_, e7_, ← hv13_, e14_] at hfr_; subst hfr_; clear hv5_ e6_ e7_ hv13_ e14_; refine value_ (w1 := ?_) (v := ?_) (by rfl) rfl ?_ ?_
                    rotate_left 2
                    ·go_simp
                     constructor
                     ·rfl
                     ·rfl
                    exact hK _ _ (by first | rfl | (simp only [i64_w, i32_w]; rfl)) (Below.refl _ _) (fun h_ => by cases h_)
                   ·intro o_ ho_; simp only [Sq.ge] at ho_; subst ho_; intro u_ w1_ hG_ hP_ K hK; have hN_ := hG_.2.1; clear HO894; clear HO897; clear HO901; clear HO_9; clear BK864; clear HB; have HO894 := Aside0.mk hG_.2.2.1; have HO897 := Aside0.mk hG_.2.2.2.1; have HO901 := Aside0.mk hG_.2.2.2.2.1; have HO_9 := Aside0.mk hG_.2.2.2.2.2.1; have BK864 := Aside0.mk hG_.2.2.2.2.2.2.1; have HB := Aside0.mk hG_.2.2.2.2.2.2.2; clear hG_; obtain ⟨v903, hv5_⟩ : ∃ v_, v_ = u_ 5 := ⟨_, rfl⟩; have e5_ := hP_ 5 (by decide) (by rfl); have e5_ : (Kd.R (Kd.int .i64) 3 w1_ w.heap.size (fun _ => True) v903 y902) ∧ ∀ b_, (v903 : Value).ownBlock = some b_ → N0_ ≤ b_ := by rw [hv5_]; exact e5_
                    have e6_ : u_ 6 = .string t905 := hP_ 6 (by decide) (by rfl); have HO904 := Aside0.mk e5_.1; clear e5_; clear hP_; refine ⟨?_⟩; generalize hfr_ : Reg.frame _ _ u_ = fr_ at hK ⊢; simp only [Sq.frm, ← hv5_, e6_] at hfr_; subst hfr_; clear hv5_ e6_; refine goes_ Try.func65 (by kernel_rfl) rfl #[.slice A0_4 l0_4.length c0_4, .int .i64 3, .bool false] (by rfl) rfl rfl (by (try simp only [Sq.mp]); first | done | rfl | (simp only [List.length_drop, List.length_take]; rfl)) ?_; with_reducible refine (impl_colorsPut.calls k4 _ _ l0_4 3 false t909 _ ?side1 ?side2 A73.out).mono ?_
                    (case side1 => exact Sq.i_ HR0_4 HB)
                    (case side2 => exact HC0_4.out)
                    rintro e w97 ⟨rfl, hb⟩; refine ⟨_, rfl, ?_⟩; exact hK _ _ rfl hb (fun h_ => by cases h_)
                  intro u_ w100 hG_ hQ_ hA_; obtain ⟨hS_, hN_, h0_, h1_, h2_, h5_, h6_, h7_⟩ := hG_; obtain ⟨v903, hv5_⟩ : ∃ v_, v_ = u_ 5 := ⟨_, rfl⟩; have e5_ := hQ_ 5 (by decide); have e5_ : (Kd.R (Kd.int .i64) 3 w100 w.heap.size (fun _ => True) v903 y902) ∧ ∀ b_, (v903 : Value).ownBlock = some b_ → N0_ ≤ b_ := by rw [hv5_]; exact e5_
                  have e6_ : u_ 6 = .string t905 := hQ_ 6 (by decide); have e7_ : u_ 7 = .string ((((strOfNums y892) ++ t898) ++ (strOfNums y899)) ++ t905) := hQ_ 7 (by decide); obtain ⟨v907, hv13_⟩ : ∃ v_, v_ = u_ 13 := ⟨_, rfl⟩; have e13_ := hQ_ 13 (by decide); have e13_ : (Kd.R (Kd.int .u8) 5 w100 w.heap.size (fun _ => True) v907 y906) ∧ ∀ b_, (v907 : Value).ownBlock = some b_ → N0_ ≤ b_ := by rw [hv13_]; exact e13_
                  have e14_ : u_ 14 = .string (strOfNums y906) := hQ_ 14 (by decide); have e15_ : u_ 15 = .string (((((strOfNums y892) ++ t898) ++ (strOfNums y899)) ++ t905) ++ (strOfNums y906)) := hQ_ 15 (by decide); have e18_ : u_ 18 = .string t909 := hQ_ 18 (by decide); have h0_o := h0_; have h1_o := h1_; have h2_o := h2_; have h5_o := h5_; have h3_ : Kd.R (Kd.int .i64) 3 w100 w.heap.size (fun k_ => some k_ ≠ (v896 : Value).ownBlock ∧ some k_ ≠ (.slice Ao77 x9_4.length co77 : Value).ownBlock) v903 y902 := Kd.R_mono (Kd.R_tight rfl e5_.1) (fun k_ hk_ => ⟨(fun h_ => by have h1_ := (h1_o.1 _ h_.symm).2; have h2_ := e5_.2 _ hk_.symm; omega), (fun h_ => by have h1_ := (h5_o.1 _ h_.symm).2; have h2_ := e5_.2 _ hk_.symm; omega)⟩); have h4_ : Kd.R (Kd.int .u8) 5 w100 w.heap.size (fun k_ => some k_ ≠ (v893 : Value).ownBlock ∧ some k_ ≠ (v900 : Value).ownBlock) v907 y906 := Kd.R_mono (Kd.R_tight rfl e13_.1) (fun k_ hk_ => ⟨(fun h_ => by have h1_ := (h0_o.1 _ h_.symm).2; have h2_ := e13_.2 _ hk_.symm; omega), (fun h_ => by have h1_ := (h2_o.1 _ h_.symm).2; have h2_ := e13_.2 _ hk_.symm; omega)⟩); have h0_ : Kd.R (Kd.int .u8) 5 w100 w.heap.size (fun k_ => some k_ ≠ (v900 : Value).ownBlock ∧ some k_ ≠ (v907 : Value).ownBlock) v893 y892 := Kd.R_mono (h0_o) (fun k_ hk_ => ⟨(by first | exact hk_.1 | exact hk_.1.1 | exact hk_.1.2 | exact hk_.1.2.1 | exact hk_.1.2.2 | exact hk_.1.2.2.1 | exact hk_.1.2.2.2), (fun h_ => by have h1_ := e13_.2 _ h_.symm; have h2_ := hk_.2; omega)⟩); have h1_ : Kd.R (Kd.int .i64) 3 w100 w.heap.size (fun k_ => some k_ ≠ (v903 : Value).ownBlock ∧ some k_ ≠ (.slice Ao77 x9_4.length co77 : Value).ownBlock) v896 y895 := Kd.R_mono (h1_o) (fun k_ hk_ => ⟨(fun h_ => by have h1_ := e5_.2 _ h_.symm; have h2_ := hk_.2; omega), (by first | exact hk_.1 | exact hk_.1.1 | exact hk_.1.2 | exact hk_.1.2.1 | exact hk_.1.2.2 | exact hk_.1.2.2.1 | exact hk_.1.2.2.2)⟩)
                  have h2_ : Kd.R (Kd.int .u8) 5 w100 w.heap.size (fun k_ => some k_ ≠ (v893 : Value).ownBlock ∧ some k_ ≠ (v907 : Value).ownBlock) v900 y899 := Kd.R_mono (h2_o) (fun k_ hk_ => ⟨(by first | exact hk_.1 | exact hk_.1.1 | exact hk_.1.2 | exact hk_.1.2.1 | exact hk_.1.2.2 | exact hk_.1.2.2.1 | exact hk_.1.2.2.2), (fun h_ => by have h1_ := e13_.2 _ h_.symm; have h2_ := hk_.2; omega)⟩); have h5_ : Kd.R (Kd.int .i64) 3 w100 w.heap.size (fun k_ => some k_ ≠ (v896 : Value).ownBlock ∧ some k_ ≠ (v903 : Value).ownBlock) (.slice Ao77 x9_4.length co77) x9_4 := Kd.R_mono (h5_o) (fun k_ hk_ => ⟨(by first | exact hk_.1 | exact hk_.1.1 | exact hk_.1.2 | exact hk_.1.2.1 | exact hk_.1.2.2 | exact hk_.1.2.2.1 | exact hk_.1.2.2.2), (fun h_ => by have h1_ := e5_.2 _ h_.symm; have h2_ := hk_.2; omega)⟩); clear h0_o; clear h1_o; clear h2_o; clear h5_o; clear e5_; clear e13_; refine ⟨?_⟩; generalize hfr_ : Reg.frame _ _ u_ = fr_; simp only [Sq.frm, ← hv5_, e6_, e7_, ← hv13_, e14_, e15_, e18_] at hfr_; subst hfr_; clear hQ_ hA_ hN_ hN0_ hv5_ hv13_ e6_ e7_ e14_ e15_ e18_; have n0_ : Aside0 (Kd.R (Kd.int .u8) 5 w100 w.heap.size (fun k_ => some k_ ≠ (v900 : Value).ownBlock ∧ some k_ ≠ (v907 : Value).ownBlock) v893 y892) := ⟨h0_⟩; have n1_ : Aside0 (Kd.R (Kd.int .i64) 3 w100 w.heap.size (fun k_ => some k_ ≠ (v903 : Value).ownBlock ∧ some k_ ≠ (.slice Ao77 x9_4.length co77 : Value).ownBlock) v896 y895) := ⟨h1_⟩; have n2_ : Aside0 (Kd.R (Kd.int .u8) 5 w100 w.heap.size (fun k_ => some k_ ≠ (v893 : Value).ownBlock ∧ some k_ ≠ (v907 : Value).ownBlock) v900 y899) := ⟨h2_⟩; have n3_ : Aside0 (Kd.R (Kd.int .i64) 3 w100 w.heap.size (fun k_ => some k_ ≠ (v896 : Value).ownBlock ∧ some k_ ≠ (.slice Ao77 x9_4.length co77 : Value).ownBlock) v903 y902) := ⟨h3_⟩; have n4_ : Aside0 (Kd.R (Kd.int .u8) 5 w100 w.heap.size (fun k_ => some k_ ≠ (v893 : Value).ownBlock ∧ some k_ ≠ (v900 : Value).ownBlock) v907 y906) := ⟨h4_⟩
                  have n5_ : Aside0 (Kd.R (Kd.int .i64) 3 w100 w.heap.size (fun k_ => some k_ ≠ (v896 : Value).ownBlock ∧ some k_ ≠ (v903 : Value).ownBlock) (.slice Ao77 x9_4.length co77) x9_4) := ⟨h5_⟩; have n6_ : Aside0 (w100.heap[gb864]? = some (.cells #[.int .i64 a0_0, .int .i64 a0_1, .int .i64 a0_2, .int .i64 a0_3, .slice A0_4 l0_4.length c0_4, .slice A0_5 l0_5.length c0_5] 40 (0, 0))) := ⟨h6_⟩; have n7_ : Aside0 (Below w.heap.size w w100) := ⟨h7_⟩; clear HO_9; clear HO894; clear HO897; clear HO901; clear BK864; clear HB; clear h0_ h1_ h2_ h3_ h4_ h5_ h6_ h7_; have HO894 := n0_; have HO897 := n1_; have HO901 := n2_; have HO904 := n3_; have HO908 := n4_; have HO_9 := n5_; have BK864 := n6_; have HB := n7_; clear n0_ n1_ n2_ n3_ n4_ n5_ n6_ n7_; have hHeld : Sq.C6 w100 gb864 (.int .i64 a0_0) (.int .i64 a0_1) (.int .i64 a0_2) (.int .i64 a0_3) (.slice A0_4 l0_4.length c0_4) (.slice A0_5 l0_5.length c0_5) := hS_; refine Sq.p_ 19 96 ?_ (Sq.b 23 2097151) rfl rfl HT_ (by kernel_rfl) (fun _ _ _ h => h) (Or.inl ⟨by rfl, ?_⟩) ?_ ?_ ?_
                  rotate_left
                  ·intro w'; go_simp; with_reducible rfl
                  rotate_left
                  ·simp only [Sq.put]; rfl
                  refine Sq.p_ 21 98 ?_ (Sq.b 23 4194303) rfl rfl HT_ (by kernel_rfl) (fun _ _ _ h => h) (Or.inl ⟨by rfl, ?_⟩) ?_ ?_ ?_
                  rotate_left
                  ·intro w'; go_simp; with_reducible rfl
                  rotate_left
                  ·simp only [Sq.put]; rfl
                  refine Sq.p_ 22 4 ?_ (Sq.b 23 8388607) rfl rfl HT_ (by kernel_rfl) (fun _ _ _ h => h) (Or.inl ⟨by rfl, ?_⟩) ?_ ?_ ?_
                  rotate_left
                  ·intro w'; go_simp; with_reducible rfl
                  rotate_left
                  ·simp only [Sq.put]; rfl
                  refine done_ (done_of HT_.out (by kernel_rfl)) ?_; try go_wp2
                  go_ret
                  exact ⟨by first | rfl | (simp [errW_none, errW_some] <;> rfl) | (simp [*, errW_none, errW_some] <;> rfl), (Sq.ut HB)⟩
                 ·rw [if_neg c75] at H; exact absurd H (by simp)
                ·rw [if_neg c74] at H; exact absurd H (by simp)
               ·rw [if_neg c72] at H; exact absurd H (by simp)
              ·rw [if_neg c71] at H; exact absurd H (by simp)
             ·rw [if_neg c69] at H; exact absurd H (by simp)
            ·rw [if_neg c68] at H; exact absurd H (by simp)
end Go.Proofs.Ytgdbinifnhfcjaa.P
