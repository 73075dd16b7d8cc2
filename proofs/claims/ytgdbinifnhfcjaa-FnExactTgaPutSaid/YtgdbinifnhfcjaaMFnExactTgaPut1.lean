/- Texts of one law put together (wip/merge2.py). -/
import Derived.Test.YtgdbinifnhfcjaaWWords
import Derived.Test.YtgdbinifnhfcjaaWMore
import Derived.Test.YtgdbinifnhfcjaaWLast
import Derived.Test.YtgdbinifnhfcjaaWTab
import Derived.Test.YtgdbinifnhfcjaaMFnExactTgaPut0
import Derived.Test.YtgdbinifnhfcjaaProg
import Derived.Below
import Derived.Deep.Draws
import Derived.Deep.AppendLies
import Derived.Maps.AppendAt
import Derived.OwnWalk
import Derived.Laws.BytesArg
import Derived.Laws.MakeOwn
import Derived.Laws.OwnMore
import Derived.Deep.OwnRows
import Derived.Tactics
import Derived.Lib.ConvBytes
import Derived.Laws.Slices
import Derived.WalkKit
import Derived.KernelRfl
import Derived.RowKit3
import Derived.Deep.LoopGhost
import Derived.Deep.QuietTactic
import Derived.BigQuiet
import Derived.WideLaws
import Derived.Deep.DeepCutAuto
import Derived.Deep.CutBlock
import Derived.Deep.RegionHeld3
import Derived.Laws.Rows
import Derived.Lib.AppendStr
import Derived.ArgAppend
import Derived.Laws.IdiomCopy
import Derived.OrdersHeld
import Derived.Laws.BitsLemmas
import Derived.RowKit
import Derived.RegionTactic
import Derived.BigRegion
import Derived.ChangeAlike
import Derived.Lib.Strings
import Derived.Lib.IndexBytes
import Derived.Test.YtgdbinifnhfcjaaLibPatch
import Derived.Test.YtgdbinifnhfcjaaWQPut
import Derived.Test.YtgdbinifnhfcjaaWApart
import Derived.Test.YtgdbinifnhfcjaaWArr
import Derived.Test.YtgdbinifnhfcjaaWZeros
import Derived.Test.YtgdbinifnhfcjaaWFoot
import Derived.Test.YtgdbinifnhfcjaaWKept
import Derived.Test.YtgdbinifnhfcjaaWShare
import Derived.Test.YtgdbinifnhfcjaaWN
import Derived.Test.YtgdbinifnhfcjaaWRepsOne
import Derived.Test.YtgdbinifnhfcjaaWGuard
import Derived.Test.YtgdbinifnhfcjaaWNEv
/- Short words for what printed walks say again and again: what holds in a world holds in one that has only grown. -/
set_option linter.unusedVariables false
namespace Go.Proofs.Ytgdbinifnhfcjaa.Sq
open Go.RowKit Go.Proofs.YtgdbinifnhfcjaaW.PrintWords
/-- w' is w with more, or drawn. -/
class Ext (w w' : World) : Prop where below : Below w.heap.size w w'
instance Ext.refl_ (w : World) : Ext w w := ⟨Below.refl _ _⟩
instance Ext.alloc_ (w w' : World) (o : Obj) [h : Ext w w'] : Ext w (w'.alloc o) := ⟨below_alloc h.below o⟩
instance Ext.drew_ (w w' : World) [h : Ext w w'] : Ext w w'.drew := ⟨below_drew1 h.below⟩
instance Ext.drewN_ (w w' : World) (n : Nat) [h : Ext w w'] : Ext w (w'.drewN n) := ⟨pw_below_drewN h.below n⟩
/-- Of the place g: made since w0. -/
class Old (w0 : World) (g : Nat) : Prop where old : w0.heap.size ≤ g
theorem o_ {w0 : World} {g : Nat} (h : Aside0 (w0.heap.size ≤ g)) : Old w0 g := ⟨h.out⟩
/-- All that stood in w0 stands in w', where it stands in w. -/
class Up (w0 w w' : World) : Prop where up : Below w0.heap.size w0 w → Below w0.heap.size w0 w'
instance Up.refl_ (w0 w : World) : Up w0 w w := ⟨id⟩
instance Up.alloc_ (w0 w w' : World) (o : Obj) [h : Up w0 w w'] : Up w0 w (w'.alloc o) := ⟨fun x => below_alloc (h.up x) o⟩
instance Up.drew_ (w0 w w' : World) [h : Up w0 w w'] : Up w0 w w'.drew := ⟨fun x => below_drew1 (h.up x)⟩
instance Up.drewN_ (w0 w w' : World) (n : Nat) [h : Up w0 w w'] : Up w0 w (w'.drewN n) := ⟨fun x => pw_below_drewN (h.up x) n⟩
instance Up.set_ (w0 w w' : World) (g j : Nat) (v : Value) [h : Up w0 w w'] [o : Old w0 g] : Up w0 w (w'.setCell ⟨g, j, none⟩ v) := ⟨fun x => below_set (h.up x) o.old⟩
section
variable {α : Type} {d : Kd α} {e base n m c : Nat} {ok : Nat → Prop} {w0 w w' w2 : World} {v : Value} {xs : List α} {A : Option Addr} {g : Nat} {o : Obj}
/-- A row of one's own, over a call. -/
theorem r_ (h : Aside0 (d.R e w base ok v xs)) [x : Ext w w'] (hb : Below w'.heap.size w' w2) : Aside0 (d.R e w2 base ok v xs) := ⟨Kd.R_below (Kd.R_below h.out x.below) hb⟩
theorem n_ (h : Aside0 (d.R e w base ok v xs)) [x : Ext w w'] : d.R e w' base ok v xs := Kd.R_below h.out x.below
/-- A block, over a call. -/
theorem b_ (h : Aside0 (w.heap[g]? = some o)) [x : Ext w w'] (hb : Below w'.heap.size w' w2) : Aside0 (w2.heap[g]? = some o) := ⟨blk_below (blk_below h.out x.below) hb⟩
theorem k_ (h : Aside0 (w.heap[g]? = some o)) [x : Ext w w'] : w'.heap[g]? = some o := blk_below h.out x.below
/-- All that stood, over a call. -/
theorem s_ (h : Aside0 (Below w0.heap.size w0 w)) [x : Ext w w'] (hb : Below w'.heap.size w' w2) : Aside0 (Below w0.heap.size w0 w2) := ⟨below_step (below_step h.out x.below) hb⟩
theorem t_ (h : Aside0 (Below w0.heap.size w0 w)) [x : Ext w w'] : Below w0.heap.size w0 w' := below_step h.out x.below
/-- A row of one's own, read. -/
theorem c_ (h : Aside0 (d.R e w base ok (.slice A n c) xs)) [x : Ext w w'] : d.C w' A xs.length xs := Kd.C_below (Kd.R_reads' h.out).2.2 x.below
theorem d_ (h : Aside0 (d.C w A n xs)) [x : Ext w w'] : d.C w' A n xs := Kd.C_below h.out x.below
/-- What came in, read later. -/
theorem i_ (h : Aside0 (d.C w A n xs)) (hB : Aside0 (Below w.heap.size w w2)) [x : Ext w2 w'] : d.C w' A n xs := Kd.C_below (Kd.C_below h.out hB.out) x.below
/-- What was there is older than what is made. -/
theorem g_ (h : Aside0 (Below w0.heap.size w0 w)) [x : Ext w w'] (hg : g = w'.heap.size) : Aside0 (w0.heap.size ≤ g) := ⟨by rw [hg]; exact below_size (below_step h.out x.below)⟩
theorem a_ {w0 w w' : World} (h : Aside0 (Below w0.heap.size w0 w)) [x : Ext w w'] : Aside0 (Below w0.heap.size w0 w') := ⟨below_step h.out x.below⟩
theorem l_ {w0 : World} (ho : d.R e w w'.heap.size ok v xs) (h : Aside0 (Below w0.heap.size w0 w2)) [x : Ext w2 w'] : Aside0 (d.R e w w0.heap.size ok v xs) := ⟨Kd.R_lower ho (below_size (below_step h.out x.below))⟩
theorem kk_ (h : Aside0 (w.heap[g]? = some o)) [x : Ext w w'] : Aside0 (w'.heap[g]? = some o) := ⟨blk_below h.out x.below⟩
theorem nn_ (h : Aside0 (d.R e w base ok v xs)) [x : Ext w w'] : Aside0 (d.R e w' base ok v xs) := ⟨Kd.R_below h.out x.below⟩
theorem us (h : Aside0 (Below w0.heap.size w0 w)) [x : Up w0 w w'] (hb : Below w'.heap.size w' w2) : Aside0 (Below w0.heap.size w0 w2) := ⟨below_step (x.up h.out) hb⟩
theorem ut (h : Aside0 (Below w0.heap.size w0 w)) [x : Up w0 w w'] : Below w0.heap.size w0 w' := x.up h.out
theorem ug (h : Aside0 (Below w0.heap.size w0 w)) [x : Up w0 w w'] (hg : g = w'.heap.size) : Aside0 (w0.heap.size ≤ g) := ⟨by rw [hg]; exact below_size (x.up h.out)⟩
theorem ul {w0 : World} (ho : d.R e w w'.heap.size ok v xs) (h : Aside0 (Below w0.heap.size w0 w2)) [x : Up w0 w2 w'] : Aside0 (d.R e w w0.heap.size ok v xs) := ⟨Kd.R_lower ho (below_size (x.up h.out))⟩
theorem uc {w0 : World} (h : Aside0 (d.C w0 A n xs)) (hB : Aside0 (Below w0.heap.size w0 w2)) [x : Up w0 w2 w'] : d.C w' A n xs := Kd.C_below h.out (x.up hB.out)
abbrev C6 (w : World) (g : Nat) (x0 x1 x2 x3 x4 x5 : Value) : Prop := w.cell? ⟨g, 0, none⟩ = some x0 ∧ w.cell? ⟨g, 1, none⟩ = some x1 ∧ w.cell? ⟨g, 2, none⟩ = some x2 ∧ w.cell? ⟨g, 3, none⟩ = some x3 ∧ w.cell? ⟨g, 4, none⟩ = some x4 ∧ w.cell? ⟨g, 5, none⟩ = some x5
theorem c6 {x0 x1 x2 x3 x4 x5 : Value} {t : TypeId} (h : Aside0 (w.heap[g]? = some (.cells #[x0, x1, x2, x3, x4, x5] t (0, 0)))) : C6 w g x0 x1 x2 x3 x4 x5 :=
  ⟨(blk_cell h.out 0).trans rfl, (blk_cell h.out 1).trans rfl, (blk_cell h.out 2).trans rfl, (blk_cell h.out 3).trans rfl, (blk_cell h.out 4).trans rfl, (blk_cell h.out 5).trans rfl⟩
/-- A row that lies elsewhere, where six cells are written. -/
theorem f6 (h : d.R e w base (fun k => ok k ∧ k ≠ g) v xs) (u0 u1 u2 u3 u4 u5 : Value) : d.R e ((((((w.setCell ⟨g, 0, none⟩ u0).setCell ⟨g, 1, none⟩ u1).setCell ⟨g, 2, none⟩ u2).setCell ⟨g, 3, none⟩ u3).setCell ⟨g, 4, none⟩ u4).setCell ⟨g, 5, none⟩ u5) base (fun k => ok k ∧ k ≠ g) v xs :=
  Kd.R_far (Kd.R_far (Kd.R_far (Kd.R_far (Kd.R_far (Kd.R_far h (fun _ hk => hk.2) u0) (fun _ hk => hk.2) u1) (fun _ hk => hk.2) u2) (fun _ hk => hk.2) u3) (fun _ hk => hk.2) u4) (fun _ hk => hk.2) u5
/-- A picture's cells. -/
theorem cell6 {x0 x1 x2 x3 x4 x5 : Value} {t : TypeId} (h : Aside0 (w.heap[g]? = some (.cells #[x0, x1, x2, x3, x4, x5] t (0, 0)))) :
    w.cell? ⟨g, 0, none⟩ = some x0 ∧ w.cell? ⟨g, 1, none⟩ = some x1 ∧ w.cell? ⟨g, 2, none⟩ = some x2 ∧ w.cell? ⟨g, 3, none⟩ = some x3 ∧ w.cell? ⟨g, 4, none⟩ = some x4 ∧ w.cell? ⟨g, 5, none⟩ = some x5 ∧
    w.frozen? ⟨g, 0, none⟩ = false ∧ w.frozen? ⟨g, 1, none⟩ = false ∧ w.frozen? ⟨g, 2, none⟩ = false ∧ w.frozen? ⟨g, 3, none⟩ = false ∧ w.frozen? ⟨g, 4, none⟩ = false ∧ w.frozen? ⟨g, 5, none⟩ = false :=
  ⟨(blk_cell h.out 0).trans rfl, (blk_cell h.out 1).trans rfl, (blk_cell h.out 2).trans rfl, (blk_cell h.out 3).trans rfl, (blk_cell h.out 4).trans rfl, (blk_cell h.out 5).trans rfl, blk_frozen h.out 0, blk_frozen h.out 1, blk_frozen h.out 2, blk_frozen h.out 3, blk_frozen h.out 4, blk_frozen h.out 5⟩
end
/-- Bools by their bits. -/
def b (n m : Nat) : Array Bool := ⟨(List.range n).map fun i => m.testBit i⟩
/-- An act with one more value. -/
theorem put : (∀ (t : Array Value) (d : List Deferred) (n : Tmp) (v : Value), Act.put ⟨t, d⟩ (some n) v = ⟨t.setIfInBounds n v, d⟩) ∧ (∀ (a : Act) (v : Value), Act.put a none v = a) ∧
    (∀ (l : List Value) (i : Nat) (x : Value), l.toArray.setIfInBounds i x = (l.set i x).toArray) ∧ (∀ (a : Value) (l : List Value) (b : Value), (a :: l).set 0 b = b :: l) ∧ (∀ (a : Value) (l : List Value) (n : Nat) (b : Value), (a :: l).set (n + 1) b = a :: l.set n b) ∧
    (∀ n : Int, IntKind.i64.wrap n = wrap64 n) ∧ (∀ n : Int, IntKind.i32.wrap n = wrap32 n) :=
  ⟨fun _ _ _ _ => rfl, fun _ _ => rfl, fun _ _ _ => List.setIfInBounds_toArray .., fun _ _ _ => rfl, fun _ _ _ _ => rfl, Go.Proofs.YtgdbinifnhfcjaaW.PrintLast.i64_w, Go.Proofs.YtgdbinifnhfcjaaW.PrintLast.i32_w⟩
theorem t {α : Type} {a b : Option α} {r : Option α} (H : (if true = true then a else b) = r) : a = r := (if_pos rfl).symm.trans H
theorem f {α : Type} {a b : Option α} {r : Option α} (H : (if false = true then a else b) = r) : b = r := (if_neg (by decide)).symm.trans H
theorem y {α β : Type} {y L : α} {F : α → Option β} {r : Option β} (h : y = L) (H : (some L).bind F = r) : F y = r := by subst h; exact H
theorem ge : (∀ (l : List Oper) (i : Nat), l.toArray[i]? = l[i]?) ∧ (∀ (a : Oper) (l : List Oper) (i : Nat), (a :: l)[i + 1]? = l[i]?) ∧ (∀ (a : Oper) (l : List Oper), (a :: l)[0]? = some a) ∧ (∀ a b : Oper, (some a = some b) = (a = b)) :=
  ⟨fun _ _ => List.getElem?_toArray .., fun _ _ _ => List.getElem?_cons_succ, fun _ _ => List.getElem?_cons_zero, fun _ _ => Option.some.injEq ..⟩
theorem mp : (∀ (f : Operand → Value) (l : List Operand), l.toArray.map f = (l.map f).toArray) ∧ (∀ (f : Operand → Value) (a : Operand) (l : List Operand), (a :: l).map f = f a :: l.map f) ∧ (∀ f : Operand → Value, ([] : List Operand).map f = []) :=
  ⟨fun _ _ => List.map_toArray .., fun _ _ _ => List.map_cons .., fun _ => List.map_nil ..⟩
theorem frm : (∀ (t : Array Value) (d : List Deferred) (l : List (Nat × Nat)) (u : Nat → Value), Reg.frame ⟨t, d⟩ l u = ⟨Reg.setAll l u t, d⟩) ∧ (∀ (u : Nat → Value) (t : Array Value), Reg.setAll [] u t = t) ∧ (∀ (p : Nat × Nat) (l : List (Nat × Nat)) (u : Nat → Value) (t : Array Value), Reg.setAll (p :: l) u t = Reg.setAll l u (t.setIfInBounds p.1 (u p.2))) ∧
    (∀ (l : List Value) (i : Nat) (x : Value), l.toArray.setIfInBounds i x = (l.set i x).toArray) ∧ (∀ (a : Value) (l : List Value) (b : Value), (a :: l).set 0 b = b :: l) ∧ (∀ (a : Value) (l : List Value) (n : Nat) (b : Value), (a :: l).set (n + 1) b = a :: l.set n b) :=
  ⟨fun _ _ _ _ => rfl, fun _ _ => rfl, fun _ _ _ _ => rfl, fun _ _ _ => List.setIfInBounds_toArray .., fun _ _ _ => rfl, fun _ _ _ _ => rfl⟩
section
open Go.Proofs.YtgdbinifnhfcjaaW.PrintLast
variable {P : Program} {ops : Array Oper} {Q : Exit → Act → World → Prop} {md : Region.Mode} {S : World → Prop} {ds : List Nat}
theorem p_ (i N : Nat) {oi : Oper} (v : Value) {fuel : Nat} {l : Array Bool} {a : Act} {w : World} (l' : Array Bool) (hi : ops[i]? = some oi) (hN : oi.dst = some N) {T} (hT : Aside0 (rtab md ops = T)) (hc : anyT T l.toList l'.toList i = true)
    (hQ : ∀ c a w, Q (.panic c) (a.put oi.dst v) w → Q (.panic c) a w) (hy : Yields P ops oi v a) (a' : Act) (ha : a.put (some N) v = a')
    (h : wpAnyLast P md ops Q S ds fuel l' a' w) : wpAnyLast P md ops Q S ds (fuel + 1) l a w := pure_ (i := i) l' hi hN (any_of hT.out hc) hQ hy ha h
theorem k (i N : Nat) {oi : Oper} (v : Value) {fuel : Nat} {l : Array Bool} {a : Act} {w : World} (l' : Array Bool) (hi : ops[i]? = some oi) (hN : oi.dst = some N) {T B} (hT : Aside0 (rtab md ops = T)) (hB : Aside0 (waitsOk T.2 B = true)) (hc : takeW T B ds l.toList l'.toList i = true)
    (hQ : ∀ c a w, Q (.panic c) (a.put oi.dst v) w → Q (.panic c) a w) (hy : YieldsIf P ops S oi v a) (hS : S w) (a' : Act) (ha : a.put (some N) v = a')
    (h : wpAnyLast P md ops Q S ds fuel l' a' w) : wpAnyLast P md ops Q S ds (fuel + 1) l a w := take_ (i := i) l' hi hN (take_ofW hT.out hB.out hc) hQ hy hS ha h
end
end Go.Proofs.Ytgdbinifnhfcjaa.Sq
namespace Go.Proofs.Ytgdbinifnhfcjaa.P
open Go.RowKit Go.Proofs.YtgdbinifnhfcjaaW.PrintWords Go.Proofs.YtgdbinifnhfcjaaW.PrintLast Go.Proofs.YtgdbinifnhfcjaaW.PrintMore
attribute [local go_sem] max2_int min2_int max_two min_two max_three min_three max_four min_four   -- for this text's walks alone
set_option linter.unusedVariables false
set_option linter.unusedSimpArgs false
def errW : Option Int → Value
 | none => .nilIface
 | some c => .iface 0 (.int .i64 c)
theorem errW_none : errW none = .nilIface := rfl
theorem errW_some (c : Int) : errW (some c) = .iface 0 (.int .i64 c) := rfl
theorem info3 : (Try.prog.info? 3).map (fun i => (i.zero, i.size, i.bytes)) = some (some (.int .i64 0), 1, 8) := by kernel_rfl
theorem info5 : (Try.prog.info? 5).map (fun i => (i.zero, i.size, i.bytes)) = some (some (.int .u8 0), 1, 1) := by kernel_rfl
theorem info31 : (Try.prog.info? 31).map (fun i => (i.zero, i.size, i.bytes)) = some (some (.slice none 0 0), 1, 24) := by kernel_rfl
-- the values' own types
def rd_L1 (xs : List (List Int)) (i : Int) : (List Int) := xs.getD i.toNat ([] : List Int)
theorem at_L1 {w : World} {A : Option Addr} {n : Nat} {xs : List (List Int)} (h : Kd.C (Kd.slice 3 (Kd.int .i64)) w A n xs) (i : Int) (h0 : 0 ≤ i) (h1 : i < n) : ∃ ad A0 c0, A = some ad ∧ w.cell? (ad.add i.toNat) = some (.slice A0 (rd_L1 xs i).length c0) ∧ (rd_L1 xs i).length ≤ c0 ∧ (Kd.int .i64).C w A0 (rd_L1 xs i).length (rd_L1 xs i) := by
 obtain ⟨ad, c, e, _, hK, hc0⟩ := Kd.C_get h ([] : List Int) i h0 h1; have hc : ∀ j u, c[j]? = some u → w.cell? (ad.add (i.toNat * 1 + j)) = some u := hc0; obtain ⟨A0, c0, rfl, l0, g0⟩ := hK; exact ⟨ad, A0, c0, e, by have hq := hc 0 _ rfl; rwa [Nat.mul_one, Nat.add_zero] at hq, l0, g0⟩
/-! ### impl_in: function 45 -/
def impl_in.f (a0 : Int) (a1 : Int) (a2 : Int) : Option (Bool) := if a0 ≥ a1 then (some (decide (a0 ≤ a2))) else (some false)
set_option maxHeartbeats 8000000 in
set_option maxRecDepth 100000 in
theorem impl_in.calls (a0 : Int) (a1 : Int) (a2 : Int) (r : Bool) (w : World) (h : impl_in.f a0 a1 a2 = some r) :
 Calls Try.prog 45 #[.int .i64 a0, .int .i64 a1, .int .i64 a2] w fun e w' => e = .returned (.bool r) ∧ Drawn0 w w' := by
 have H : (if a0 ≥ a1 then (some (decide (a0 ≤ a2))) else (some false)) = some r := h; clear h
 by_cases c4 : a0 ≥ a1
 ·rw [if_pos c4] at H; have c4b0 : decide (a1 ≤ a0) = true := decide_eq_true c4; clear c4; obtain rfl := Option.some.inj H; go_enter Try.func45, Try.ntmps45
  go_wp2
  go_ret
  exact ⟨by first | rfl | (simp; done) | (simp [*]; done), by repeat (first | exact Drawn0.refl _ | apply Drawn0.step)⟩
 ·rw [if_neg c4] at H; have c4b0 : decide (a1 ≤ a0) = false := decide_eq_false c4; clear c4; obtain rfl := Option.some.inj H; go_enter Try.func45, Try.ntmps45
  go_wp2
  go_ret
  exact ⟨by first | rfl | (simp; done) | (simp [*]; done), by repeat (first | exact Drawn0.refl _ | apply Drawn0.step)⟩
/-! ### impl_smallDepth: function 114 -/
def impl_smallDepth.f (a0 : Int) : Option (Bool) := if a0 = 1 then (some true) else (if a0 = 2 then (some true) else (if a0 = 4 then (some true) else (some (a0 == 8))))
set_option maxHeartbeats 8000000 in
set_option maxRecDepth 100000 in
theorem impl_smallDepth.calls (a0 : Int) (r : Bool) (w : World) (h : impl_smallDepth.f a0 = some r) :
 Calls Try.prog 114 #[.int .i64 a0] w fun e w' => e = .returned (.bool r) ∧ Drawn0 w w' := by
 have H : (if a0 = 1 then (some true) else (if a0 = 2 then (some true) else (if a0 = 4 then (some true) else (some (a0 == 8))))) = some r := h; clear h
 by_cases c2 : a0 = 1
 ·rw [if_pos c2] at H; have c2b0 : (a0 == 1) = true := beq_iff_eq.mpr c2; have c2b1 : (a0 != 1) = false := bne_eq_false_iff_eq.mpr c2; clear c2; obtain rfl := Option.some.inj H; go_enter Try.func114, Try.ntmps114
  go_wp2
  go_ret
  exact ⟨by first | rfl | (simp; done) | (simp [*]; done), by repeat (first | exact Drawn0.refl _ | apply Drawn0.step)⟩
 ·rw [if_neg c2] at H; have c2b0 : (a0 == 1) = false := beq_eq_false_iff_ne.mpr c2; have c2b1 : (a0 != 1) = true := bne_iff_ne.mpr c2
  by_cases c3 : a0 = 2
  ·rw [if_pos c3] at H; have c3b0 : (a0 == 2) = true := beq_iff_eq.mpr c3; have c3b1 : (a0 != 2) = false := bne_eq_false_iff_eq.mpr c3; clear c3; obtain rfl := Option.some.inj H; go_enter Try.func114, Try.ntmps114
   go_wp2
   go_ret
   exact ⟨by first | rfl | (simp; done) | (simp [*]; done), by repeat (first | exact Drawn0.refl _ | apply Drawn0.step)⟩
  ·rw [if_neg c3] at H; have c3b0 : (a0 == 2) = false := beq_eq_false_iff_ne.mpr c3; have c3b1 : (a0 != 2) = true := bne_iff_ne.mpr c3
   by_cases c4 : a0 = 4
   ·rw [if_pos c4] at H; have c4b0 : (a0 == 4) = true := beq_iff_eq.mpr c4; have c4b1 : (a0 != 4) = false := bne_eq_false_iff_eq.mpr c4; clear c4; obtain rfl := Option.some.inj H; go_enter Try.func114, Try.ntmps114
    go_wp2
    go_ret
    exact ⟨by first | rfl | (simp; done) | (simp [*]; done), by repeat (first | exact Drawn0.refl _ | apply Drawn0.step)⟩
   ·rw [if_neg c4] at H; have c4b0 : (a0 == 4) = false := beq_eq_false_iff_ne.mpr c4; have c4b1 : (a0 != 4) = true := bne_iff_ne.mpr c4; obtain rfl := Option.some.inj H; go_enter Try.func114, Try.ntmps114
    go_wp2
    go_ret
    exact ⟨by first | rfl | (simp; done) | (simp [*]; done), by repeat (first | exact Drawn0.refl _ | apply Drawn0.step)⟩
/-! ### impl_depthOk: function 76 -/
def impl_depthOk.j0 : Nat → Int → Int → Bool → Option (Bool)
 | 0, _, _, _ => none
 | k + 1, x1, x5, x6 => if x6 = true then ((impl_smallDepth.f x1).bind fun t404 => (some t404)) else (if x5 = 2 then (some (x1 == 24)) else (if x5 = 3 then (some (x1 == 32)) else (some false)))
def impl_depthOk.f (k : Nat) (a0 : Int) (a1 : Int) : Option (Bool) := if a0 = 1 then (impl_depthOk.j0 k a1 a0 (a0 == 1)) else (impl_depthOk.j0 k a1 a0 (a0 == 4))
theorem impl_depthOk.mono_l : ∀ k, (∀ y0 y1 y2, LeO (impl_depthOk.j0 k y0 y1 y2) (impl_depthOk.j0 (k + 1) y0 y1 y2))
 | 0 => fun _ _ _ r h => by simp [impl_depthOk.j0] at h
 | k + 1 => by
  have ih0 := impl_depthOk.mono_l k
  ·intro y0 y1 y2; unfold impl_depthOk.j0
   repeat' first
   | (with_reducible exact ih0 _ _ _)
   | (with_reducible exact LeO.refl _)
   | (with_reducible exact LeO.none _)
   | (with_reducible refine LeO.ite ?_ ?_)
   | (with_reducible refine LeO.bind ?_ (fun _ => ?_))
   | exact ih0 _ _ _
   | exact LeO.none _
   | refine LeO.ite ?_ ?_
   | refine LeO.bind ?_ (fun _ => ?_)
theorem impl_depthOk.mono : ∀ a0 a1 k, LeO (impl_depthOk.f k a0 a1) (impl_depthOk.f (k + 1) a0 a1) := by
 intro a0 a1 k; have ih0 := impl_depthOk.mono_l k; unfold impl_depthOk.f
 repeat' first
  | (with_reducible exact ih0 _ _ _)
  | (with_reducible exact LeO.refl _)
  | (with_reducible exact LeO.none _)
  | (with_reducible refine LeO.ite ?_ ?_)
  | (with_reducible refine LeO.bind ?_ (fun _ => ?_))
  | exact ih0 _ _ _
  | exact LeO.none _
  | refine LeO.ite ?_ ?_
  | refine LeO.bind ?_ (fun _ => ?_)
set_option maxHeartbeats 8000000 in
set_option maxRecDepth 100000 in
theorem impl_depthOk.calls (k : Nat) (a0 : Int) (a1 : Int) (r : Bool) (w : World) (h : impl_depthOk.f k a0 a1 = some r) :
 Calls Try.prog 76 #[.int .i64 a0, .int .i64 a1] w fun e w' => e = .returned (.bool r) ∧ Drawn0 w w' := by
 have H : (if a0 = 1 then (impl_depthOk.j0 k a1 a0 (a0 == 1)) else (impl_depthOk.j0 k a1 a0 (a0 == 4))) = some r := h; clear h; have HC3 := Aside0.mk H; clear H; go_enter Try.func76, Try.ntmps76
 go_upto_if 6 with (fail)
 go_cut [6] (fun v6 wc => ∃ (kq : Nat) (x6_2 : Bool), v6 = .bool x6_2 ∧ Aside0 (impl_depthOk.j0 kq a1 a0 x6_2 = some r) ∧ Aside0 (kq ≤ k) ∧ Drawn0 w wc)
 case first =>
  have H := HC3.out; clear HC3
  by_cases c4 : a0 = 1
  ·rw [if_pos c4] at H; have c4b0 : (a0 == 1) = true := beq_iff_eq.mpr c4; have c4b1 : (a0 != 1) = false := bne_eq_false_iff_eq.mpr c4; clear c4; (first | rw [c4b0] | (simp only [i64_w, i32_w]; rw [c4b0]) | skip)
   have H' := Aside0.mk H; clear H; go_wp2
   go_meet
   case rel => exact ⟨_, ((a0 == 1)), (by first | rfl | (simp; done) | (simp [*]; done)), H', ⟨by first | omega | exact Nat.le_refl _⟩, by repeat (first | exact Drawn0.refl _ | apply Drawn0.step)⟩
  ·rw [if_neg c4] at H; have c4b0 : (a0 == 1) = false := beq_eq_false_iff_ne.mpr c4; have c4b1 : (a0 != 1) = true := bne_iff_ne.mpr c4; (first | rw [c4b0] | (simp only [i64_w, i32_w]; rw [c4b0]) | skip)
   have H' := Aside0.mk H; clear H; go_wp2
   go_meet
   case rel => exact ⟨_, ((a0 == 4)), (by first | rfl | (simp; done) | (simp [*]; done)), H', ⟨by first | omega | exact Nat.le_refl _⟩, by repeat (first | exact Drawn0.refl _ | apply Drawn0.step)⟩
 case rest =>
  clear HC3; try clear p2
  try clear c4
  try clear c4b0
  try clear c4b1
  obtain ⟨kq, x6_2, rfl, HA, HJ2, ⟨mc2, rfl⟩⟩ := hcut; cases kq with
  | zero => exact absurd HA.out (by simp [impl_depthOk.j0])
  | succ kj2 =>
   have H := HA.out; clear HA; simp only [impl_depthOk.j0] at H
   by_cases c5 : x6_2 = true
   ·subst c5; replace H := Sq.t H; replace H := Option.bind_eq_some_iff.mp H; obtain ⟨t404, A60, H⟩ := H; have A6 := Aside0.mk A60; clear A60; obtain rfl := Option.some.inj H; go_wp2_with (first | ((with_reducible refine gate_callee (f := 114) rfl ?_); refine goesL_ (some 10) rfl rfl Try.func114 (by kernel_rfl) rfl #[.int .i64 a1] rfl (by (try simp only [Sq.mp]); first | done | rfl | (simp only [List.length_drop, List.length_take]; rfl)) ?_; (with_reducible refine (impl_smallDepth.calls a1 t404 _ A6.out).mono ?_); rintro e w' ⟨rfl, ⟨nd, rfl⟩⟩; refine ⟨_, rfl, ?_⟩))
    go_ret
    exact ⟨by first | rfl | (simp; done) | (simp [*]; done), by repeat (first | exact Drawn0.refl _ | apply Drawn0.step)⟩
   ·replace c5 := Bool.eq_false_iff.mpr c5; subst c5; replace H := Sq.f H
    by_cases c7 : a0 = 2
    ·rw [if_pos c7] at H; have c7b0 : (a0 == 2) = true := beq_iff_eq.mpr c7; have c7b1 : (a0 != 2) = false := bne_eq_false_iff_eq.mpr c7; clear c7; obtain rfl := Option.some.inj H; go_wp2
     go_ret
     exact ⟨by first | rfl | (simp; done) | (simp [*]; done), by repeat (first | exact Drawn0.refl _ | apply Drawn0.step)⟩
    ·rw [if_neg c7] at H; have c7b0 : (a0 == 2) = false := beq_eq_false_iff_ne.mpr c7; have c7b1 : (a0 != 2) = true := bne_iff_ne.mpr c7
     by_cases c8 : a0 = 3
     ·rw [if_pos c8] at H; have c8b0 : (a0 == 3) = true := beq_iff_eq.mpr c8; have c8b1 : (a0 != 3) = false := bne_eq_false_iff_eq.mpr c8; clear c8; obtain rfl := Option.some.inj H; go_wp2
      go_ret
      exact ⟨by first | rfl | (simp; done) | (simp [*]; done), by repeat (first | exact Drawn0.refl _ | apply Drawn0.step)⟩
     ·rw [if_neg c8] at H; have c8b0 : (a0 == 3) = false := beq_eq_false_iff_ne.mpr c8; have c8b1 : (a0 != 3) = true := bne_iff_ne.mpr c8; obtain rfl := Option.some.inj H; go_wp2
      go_ret
      exact ⟨by first | rfl | (simp; done) | (simp [*]; done), by repeat (first | exact Drawn0.refl _ | apply Drawn0.step)⟩
/-! ### impl_outside: function 116 -/
def impl_outside.bad (a1 n : Int) : Bool := !(decide (0 ≤ n) && decide (n ≤ a1))
def impl_outside.f (l0 : List Int) (a1 : Int) : Option Bool := some (l0.any (impl_outside.bad a1))
theorem impl_outside.in_eq (x a1 : Int) : impl_in.f x 0 a1 = some (decide (0 ≤ x) && decide (x ≤ a1)) := by
 unfold impl_in.f
 by_cases h : x ≥ 0
 ·have h' : 0 ≤ x := h; rw [if_pos h]; simp [h']
 ·have h' : ¬ 0 ≤ x := h; rw [if_neg h]; simp [h']
theorem impl_outside.closure (x : Int) (B : Nat) (a1 : Int) (w : World) (hc : w.cell? ⟨B, 0, none⟩ = some (.int .i64 a1)) :
 Calls Try.prog 137 #[.int .i64 x, .pointer (some ⟨B, 0, none⟩)] w fun e w' => e = .returned (.bool (impl_outside.bad a1 x)) ∧ Drawn0 w w' := by
 have hf := Aside0.mk (impl_outside.in_eq x a1); obtain ⟨b, hb⟩ : ∃ b, b = (decide (0 ≤ x) && decide (x ≤ a1)) := ⟨_, rfl⟩; have hfin : Aside0 (impl_outside.bad a1 x = !b) := ⟨by rw [hb]; rfl⟩; rw [← hb] at hf; clear hb; go_enter Try.func137, Try.ntmps137
 go_wp2_with (go_at_call 45; refine (impl_in.calls x 0 a1 b _ hf.out).mono ?_; rintro e w' ⟨rfl, ⟨nd, rfl⟩⟩)
 go_ret
 exact ⟨by rw [hfin.out]; rfl, by repeat (first | exact Drawn0.refl _ | apply Drawn0.step)⟩
def impl_outside.idx (a1 : Int) (l : List Int) (k : Nat) : Nat → Int
 | 0 => -1
 | d + 1 => if impl_outside.bad a1 (rd l k) = true then (k : Int) else impl_outside.idx a1 l (k + 1) d
theorem impl_outside.index (A0 : Option Addr) (c0 : Nat) (l0 : List Int) (B : Nat) (a1 : Int) (r : Int) (hr : impl_outside.idx a1 l0 0 l0.length = r) (w : World) (hr0 : Kd.C (Kd.int .i64) w A0 l0.length l0) (hm : l0.length ≤ 9223372036854775807)
 (hc : w.cell? ⟨B, 0, none⟩ = some (.int .i64 a1)) :
 Calls Try.prog 146 #[.slice A0 l0.length c0, .func (.func 137) #[] #[.pointer (some ⟨B, 0, none⟩)]] w fun e w' => e = .returned (.int .i64 r) ∧ Drawn0 w w' := by
 have HR0 := Aside0.mk hr0; have HE := Aside0.mk hr; have HM := Aside0.mk hm; clear hr0 hr; go_enter Try.func146, Try.ntmps146
 go_wp2
 go_loopw [8] (fun v8 wr => ∃ (k d : Nat), v8 = .int .i64 k ∧ Aside0 (k + d = l0.length) ∧ Aside0 (impl_outside.idx a1 l0 k d = r) ∧ Drawn0 w wr) (fun i _ => l0.length - (intOf i).toNat)
 case atStart => exact ⟨0, l0.length, rfl, ⟨by simp⟩, HE, Drawn0.refl _⟩
 case round =>
  clear HE; obtain ⟨k, d, rfl, HD, HE, ⟨m1, rfl⟩⟩ := hrel; have hc' : (w.drewN m1).cell? ⟨B, 0, none⟩ = some (.int .i64 a1) := hc; have hkl : k ≤ l0.length := by have := HD.out; omega
  cases d with
  | zero =>
   have hge : ¬ k < l0.length := by have := HD.out; omega
   have HE2 := HE.out; simp only [impl_outside.idx] at HE2; have HE3 := Aside0.mk HE2; clear HE HE2; go_wp2
   go_ret
   exact ⟨by rw [← HE3.out]; rfl, by repeat (first | exact Drawn0.refl _ | apply Drawn0.step)⟩
  | succ d =>
   have hlt : k < l0.length := by have := HD.out; omega
   obtain ⟨ad, rfl, hx⟩ := Kd.at_int HR0.out (k : Int) (by omega) (by omega); obtain ⟨x, hxx⟩ : ∃ x, x = rd l0 k := ⟨_, rfl⟩; rw [← hxx] at hx; have HE2 := HE.out; simp only [impl_outside.idx] at HE2; rw [← hxx] at HE2; clear hxx HE; have hx' : (w.drewN m1).cell? (ad.add k) = some (.int .i64 x) := by simpa using hx
   clear hx; obtain ⟨b, hb⟩ : ∃ b, b = impl_outside.bad a1 x := ⟨_, rfl⟩; rw [← hb] at HE2; have HBq := Aside0.mk hb; clear hb; cases b with
   | true =>
    rw [if_pos rfl] at HE2; have HE3 := Aside0.mk HE2; clear HE2; go_wp2_with (go_at_call 137; refine (impl_outside.closure x B a1 _ hc').mono ?_; rintro e w' ⟨rfl, ⟨nd, rfl⟩⟩; rw [← HBq.out])
    go_ret
    exact ⟨by rw [← HE3.out]; rfl, by repeat (first | exact Drawn0.refl _ | apply Drawn0.step)⟩
   | false =>
    rw [if_neg (by simp)] at HE2; have HE3 := Aside0.mk HE2; clear HE2; go_wp2_with (go_at_call 137; refine (impl_outside.closure x B a1 _ hc').mono ?_; rintro e w' ⟨rfl, ⟨nd, rfl⟩⟩; rw [← HBq.out])
    go_roundw
    case rel => exact ⟨k + 1, d, by go_num, ⟨by have := HD.out; omega⟩, HE3, by repeat (first | exact Drawn0.refl _ | apply Drawn0.step)⟩
    case measure => simp [intOf]; omega
theorem impl_outside.idx_any (a1 : Int) (l : List Int) (d : Nat) : ∀ k, k + d = l.length → decide (impl_outside.idx a1 l k d ≥ 0) = (l.drop k).any (impl_outside.bad a1) := by
 induction d with
 | zero =>
  intro k hk; rw [List.drop_eq_nil_of_le (by omega)]; rfl
 | succ d ih =>
  intro k hk; have hlt : k < l.length := by omega
  have e : rd l (k : Int) = l[k] := by
   unfold rd
   rw [List.getD_eq_getElem?_getD]; simp [hlt]
  rw [List.drop_eq_getElem_cons hlt, List.any_cons, ← ih (k + 1) (by omega)]; simp only [impl_outside.idx, e]; cases impl_outside.bad a1 l[k] <;> simp
theorem impl_outside.contains (A0 : Option Addr) (c0 : Nat) (l0 : List Int) (B : Nat) (a1 : Int) (w : World) (hr0 : Kd.C (Kd.int .i64) w A0 l0.length l0) (hm : l0.length ≤ 9223372036854775807)
 (hc : w.cell? ⟨B, 0, none⟩ = some (.int .i64 a1)) :
 Calls Try.prog 136 #[.slice A0 l0.length c0, .func (.func 137) #[] #[.pointer (some ⟨B, 0, none⟩)]] w fun e w' => e = .returned (.bool (l0.any (impl_outside.bad a1))) ∧ Drawn0 w w' := by
 obtain ⟨r, hr⟩ : ∃ r, impl_outside.idx a1 l0 0 l0.length = r := ⟨_, rfl⟩; have hq := impl_outside.idx_any a1 l0 l0.length 0 (by simp); rw [hr, List.drop_zero] at hq; have HQ := Aside0.mk hq; have HE := Aside0.mk hr; clear hr hq; go_enter Try.func136, Try.ntmps136
 go_wp2_with (go_at_call 146; refine (impl_outside.index A0 c0 l0 B a1 r HE.out _ hr0 hm hc).mono ?_; rintro e w' ⟨rfl, ⟨nd, rfl⟩⟩)
 go_ret
 exact ⟨by rw [← HQ.out]; rfl, by repeat (first | exact Drawn0.refl _ | apply Drawn0.step)⟩
theorem impl_outside.calls (A0 : Option Addr) (c0 : Nat) (l0 : List Int) (a1 : Int) (r : Bool) (w : World) (hr0 : Kd.C (Kd.int .i64) w A0 l0.length l0) (hc0 : l0.length ≤ c0) (h : impl_outside.f l0 a1 = some r) :
 Calls Try.prog 116 #[.slice A0 l0.length c0, .int .i64 a1] w fun e w' => e = .returned (.bool r) ∧ Below w.heap.size w w' := by
 have hm : l0.length ≤ 9223372036854775807 := hr0.2.1; have HM := Aside0.mk hm; clear hm; obtain rfl := Option.some.inj h; clear h; have hb := below_alloc (Below.refl w.heap.size w) (.cells #[.int .i64 a1] 3); have HC := Aside0.mk (impl_outside.contains A0 c0 l0 w.heap.size a1 (w.alloc (.cells #[.int .i64 a1] 3)) (Kd.C_below hr0 hb) HM.out (by simp)); clear hr0 hb; go_enter Try.func116, Try.ntmps116
 go_wp2_with (go_at_call 136; refine HC.out.mono ?_; rintro e w' ⟨rfl, ⟨nd, rfl⟩⟩)
 go_ret
 exact ⟨rfl, by repeat (first | exact Below.refl _ _ | apply below_alloc | apply pw_below_drewN | apply below_drew1)⟩
end Go.Proofs.Ytgdbinifnhfcjaa.P
