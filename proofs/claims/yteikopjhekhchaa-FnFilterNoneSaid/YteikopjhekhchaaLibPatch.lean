/- Small lemmas that the walks of this claim use beside the words. -/
import Derived.Test.YteikopjhekhchaaWWords
import Derived.Test.YteikopjhekhchaaWLast
import Derived.Test.YteikopjhekhchaaWMore
namespace Go.Proofs.Yteikopjhekhchaa.P
open Go.RowKit Go.Proofs.YteikopjhekhchaaW.PrintWords Go.Proofs.YteikopjhekhchaaW.PrintLast Go.Proofs.YteikopjhekhchaaW.PrintMore
theorem R_mod {α : Type} {d : Kd α} {e : Nat} {w : World} {n : Nat} {a : Addr} {x y : Int} {B : Nat} {ok : Nat → Prop} {v : Value} {xs : List α} (h : d.R e (w.setCell a (.int .u8 x)) B ok v xs) (hxy : x = y) : d.R e ((w.drewN n).setCell a (.int .u8 y)) B ok v xs := by
  subst hxy
  rw [show (w.drewN n).setCell a (.int .u8 x) = (w.setCell a (.int .u8 x)).drewN n from rfl]
  exact Kd.R_drewN h n
end Go.Proofs.Yteikopjhekhchaa.P
