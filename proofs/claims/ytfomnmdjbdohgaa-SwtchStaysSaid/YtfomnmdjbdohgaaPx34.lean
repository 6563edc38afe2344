/- For each Go function a Lean function, and the proof that a call comes to what it tells: made by program out of the translation (the kit's print, with texts by hand put in). No condition. -/
import Derived.Test.YtfomnmdjbdohgaaSq
import Derived.Test.YtfomnmdjbdohgaaPx0
import Derived.Test.YtfomnmdjbdohgaaPx6
namespace Go.Proofs.Ytfomnmdjbdohgaa.P
open Go.RowKit Go.Proofs.Ytfomnmdjbdohgaa.HRows Go.Proofs.YtfomnmdjbdohgaaW.PrintWords Go.Proofs.YtfomnmdjbdohgaaW.PrintLast Go.Proofs.YtfomnmdjbdohgaaW.PrintMore
attribute [local go_sem] max2_int min2_int max_two min_two max_three min_three max_four min_four
set_option linter.unusedVariables false
set_option linter.unusedSimpArgs false
end Go.Proofs.Ytfomnmdjbdohgaa.P
