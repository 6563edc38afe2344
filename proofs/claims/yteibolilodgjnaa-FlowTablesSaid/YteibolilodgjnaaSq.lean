/- Short names for what the printed texts name over and over. No condition. -/
import Derived.Test.YteibolilodgjnaaWLast
import Derived.Test.YteibolilodgjnaaWMore
namespace Go.Proofs.Yteibolilodgjnaa.P
open Go.RowKit Go.Proofs.YteibolilodgjnaaW.PrintWords Go.Proofs.YteibolilodgjnaaW.PrintLast Go.Proofs.YteibolilodgjnaaW.PrintMore
/-- The marks of a region's operations, as the digits of a number. -/
def bs_ (n b : Nat) : Array Bool := ((List.range n).map (fun i => Nat.testBit b i)).toArray
theorem kp_ {w w' : World} {a : Addr} {v : Value} (h : Below w.heap.size w w') (hv : w.cell? a = some v) : w'.cell? a = some v := (h.cell (World.block_lt_of_cell? w _ hv)).trans hv
theorem a1_ {α : Type} (l : List α) (i : Nat) (a : α) : l.toArray.setIfInBounds i a = (l.set i a).toArray := List.setIfInBounds_toArray ..
theorem a2_ {α : Type} (x : α) (xs : List α) (a : α) : (x :: xs).set 0 a = a :: xs := List.set_cons_zero
theorem a3_ {α : Type} (x : α) (xs : List α) (n : Nat) (a : α) : (x :: xs).set (n + 1) a = x :: xs.set n a := List.set_cons_succ
theorem m_ {p : Prop} (h : p) : Aside0 p := ⟨h⟩
abbrev bc_ := @blk_cell
abbrev bf_ := @blk_frozen
abbrev bn_ := @blk_drewN
abbrev bd_ := @blk_drew
abbrev ba_ := @blk_alloc
abbrev pn_ := @pw_below_drewN
abbrev pd_ := @below_drew1
abbrev pa_ := @below_alloc
end Go.Proofs.Yteibolilodgjnaa.P
