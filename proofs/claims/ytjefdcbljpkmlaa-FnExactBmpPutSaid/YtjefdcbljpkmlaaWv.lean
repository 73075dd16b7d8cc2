/- TgaPut of both texts. -/
import Derived.Test.YtjefdcbljpkmlaaWt
import Derived.Test.YtjefdcbljpkmlaaWu
import Derived.Test.YtjefdcbljpkmlaaLb
import Derived.Test.YtjefdcbljpkmlaaMg
set_option linter.unusedVariables false
set_option maxRecDepth 10000
namespace Go.Proofs.Ytjefdcbljpkmlaa.G
open Go
def tHas (cs : List Int) : Int := if cs = [] then 0 else 1
def tBits (cs : List Int) : Int := if cs = [] then 0 else 24
def tLast (k : Int) : Int := if k = 3 then 40 else 32
def tData (k d : Int) (ps : List Int) (runs : Bool) : List Int := if runs then pack (ps.map (rol k)) (d / 8).toNat else les (d / 8).toNat (ps.map (rol k))
def tgaL (k d w h : Int) (cs ps : List Int) (runs : Bool) : List Int := [0, tHas cs, tT k d + (if runs then 8 else 0)] ++ les 2 [0, cs.length] ++ [tBits cs, 0, 0, 0, 0] ++ les 2 [w, h] ++ [d, tLast k] ++ les 3 cs ++ tData k d ps runs
/-- A picture as a TGA. -/
def tgaPut (k d w h : Int) (cs ps : List Int) (runs : Bool) : List Int := if imgOk k d w h cs ps ∧ tT k d ≠ 0 then tgaL k d w h cs ps runs else []
theorem rol_fits {k d w h : Int} {cs ps : List Int} (hok : imgOk k d w h cs ps) (ht : tT k d ≠ 0) : ∃ z : Nat, d = 8 * (z : Int) ∧ (d / 8).toNat = z ∧ 1 ≤ z ∧ z ≤ 4 ∧ small ps ∧ fits z (ps.map (rol k)) ∧ (1 ≤ tT k d ∧ tT k d ≤ 3) ∧ fits 3 cs ∧ small cs := by
  obtain ⟨h1, h2, h3, h4, h5, h6⟩ := imgOk_iff.1 hok
  have hl := imgOk_len hok
  have hT := tT_eq k d
  have hz : (k = 4 ∧ d = 8) ∨ (k = 1 ∧ d = 8) ∨ (k = 2 ∧ d = 24) ∨ (k = 3 ∧ d = 32) := by unfold dOk at h1; omega
  have hc : fits 3 cs := fun x hx => by
    have := outs_mem.1 h5.1 x hx
    rw [show ((256 ^ 3 : Nat) : Int) = 16777216 by decide]
    omega
  have hcs : small cs := fun x hx => by
    have := outs_mem.1 h5.1 x hx
    omega
  rw [outs_mem] at h6
  rcases hz with ⟨rfl, rfl⟩ | ⟨rfl, rfl⟩ | ⟨rfl, rfl⟩ | ⟨rfl, rfl⟩
  · rw [if_pos rfl] at h6
    refine ⟨1, rfl, rfl, by omega, by omega, fun x hx => by have := h6 x hx; omega, fun x hx => ?_, by decide, hc, hcs⟩
    obtain ⟨y, hy, rfl⟩ := List.mem_map.1 hx
    have := h6 y hy
    show 0 ≤ y ∧ y < 256
    omega
  · rw [if_neg (by decide)] at h6
    refine ⟨1, rfl, rfl, by omega, by omega, fun x hx => by have := h6 x hx; rw [show (1 : Int) * 2 ^ Int.toNat 8 - 1 = 255 by decide] at this; omega, fun x hx => ?_, by decide, hc, hcs⟩
    obtain ⟨y, hy, rfl⟩ := List.mem_map.1 hx
    have := h6 y hy
    rw [show (1 : Int) * 2 ^ Int.toNat 8 - 1 = 255 by decide] at this
    show 0 ≤ y ∧ y < 256
    omega
  · rw [if_neg (by decide)] at h6
    refine ⟨3, rfl, rfl, by omega, by omega, fun x hx => by have := h6 x hx; rw [show (1 : Int) * 2 ^ Int.toNat 24 - 1 = 16777215 by decide] at this; omega, fun x hx => ?_, by decide, hc, hcs⟩
    obtain ⟨y, hy, rfl⟩ := List.mem_map.1 hx
    have := h6 y hy
    rw [show (1 : Int) * 2 ^ Int.toNat 24 - 1 = 16777215 by decide] at this
    show 0 ≤ y ∧ y < 16777216
    omega
  · rw [if_neg (by decide)] at h6
    refine ⟨4, rfl, rfl, by omega, by omega, fun x hx => by have := h6 x hx; rw [show (1 : Int) * 2 ^ Int.toNat 32 - 1 = 4294967295 by decide] at this; omega, fun x hx => ?_, by decide, hc, hcs⟩
    obtain ⟨y, hy, rfl⟩ := List.mem_map.1 hx
    have := h6 y hy
    rw [show (1 : Int) * 2 ^ Int.toNat 32 - 1 = 4294967295 by decide] at this
    show 0 ≤ y / 256 + y % 256 * 16777216 ∧ y / 256 + y % 256 * 16777216 < 4294967296
    omega
/-- Four bytes. -/
theorem le_small (n : Nat) : le n 4 = [((n / 256 ^ 0 % 256 : Nat) : Int), ((n / 256 ^ 1 % 256 : Nat) : Int), ((n / 256 ^ 2 % 256 : Nat) : Int), ((n / 256 ^ 3 % 256 : Nat) : Int)] := rfl
end Go.Proofs.Ytjefdcbljpkmlaa.G
