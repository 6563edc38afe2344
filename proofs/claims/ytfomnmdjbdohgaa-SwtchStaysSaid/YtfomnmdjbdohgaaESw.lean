/- Laws of maps and of rows that the switch's methods are walked with. -/
import Derived.Test.YtfomnmdjbdohgaaHRows
import Derived.Test.YtfomnmdjbdohgaaV1
import Derived.Maps.OwnSet
namespace Go.Proofs.Ytfomnmdjbdohgaa.P
end Go.Proofs.Ytfomnmdjbdohgaa.P
