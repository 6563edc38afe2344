/- What the laws' arguments read as. -/
import Derived.Test.YtboonfidioombaaPx0
import Derived.Test.YtboonfidioombaaHOpen
namespace Go.Proofs.Ytboonfidioombaa.P
open Go.RowKit Go.Proofs.YtboonfidioombaaW.PrintWords Go.Proofs.YtboonfidioombaaW.PrintLast Go.Proofs.YtboonfidioombaaW.PrintMore Go.Proofs.Ytboonfidioombaa.HOpen
end Go.Proofs.Ytboonfidioombaa.P
