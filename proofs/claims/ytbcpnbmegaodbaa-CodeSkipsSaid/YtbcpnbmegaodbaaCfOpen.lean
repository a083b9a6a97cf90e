/- The laws' struct arguments, opened: what came in reads as the printed contracts ask. -/
import Derived.Test.YtbcpnbmegaodbaaOp
import Derived.Test.YtbcpnbmegaodbaaCfx0
namespace Go.Proofs.Ytbcpnbmegaodbaa.Cf
open Go.RowKit Go.Proofs.YtbcpnbmegaodbaaW.PrintWords Go.Proofs.YtbcpnbmegaodbaaW.PrintLast Go.Proofs.Ytbcpnbmegaodbaa.Op
set_option linter.unusedVariables false
end Go.Proofs.Ytbcpnbmegaodbaa.Cf
