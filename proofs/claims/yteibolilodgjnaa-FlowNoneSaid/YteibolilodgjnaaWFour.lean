-- Words of the kit's print, thinned by this claim's maker's own program: what no text of the seat names was left out.
import Derived.Test.YteibolilodgjnaaWTab
/-! ### 56. Four, five, six operations that may come up next, in any order -/
namespace Go.Proofs.YteibolilodgjnaaW.PrintLast
section
variable {P : Program} {ops : Array Oper} {Q : Exit → Act → World → Prop} {md : Region.Mode} {S : World → Prop} {ds : List Nat} {T : Bool × List (List Nat × List Nat)}
end
end Go.Proofs.YteibolilodgjnaaW.PrintLast
