/- The document's own functions of rows do what the program's do. -/
import Derived.Test.YtfomnmdjbdohgaaFlTab
import Derived.Test.YtfomnmdjbdohgaaFlSame
import Derived.Test.YtfomnmdjbdohgaaPx15
import Derived.Test.YtfomnmdjbdohgaaPx24
import Derived.Test.YtfomnmdjbdohgaaPx25
namespace Go.Proofs.Ytfomnmdjbdohgaa.P
set_option linter.unusedVariables false
set_option linter.unusedSimpArgs false
open Go.RowKit Go.Proofs.YtfomnmdjbdohgaaW.PrintWords Go.Proofs.YtfomnmdjbdohgaaW.PrintLast Go.Proofs.YtfomnmdjbdohgaaW.PrintMore
end Go.Proofs.Ytfomnmdjbdohgaa.P
