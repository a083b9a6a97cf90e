/- The laws' struct arguments, opened: what came in reads as the printed contracts ask. -/
import Derived.Test.YtlfeohglfjnnhaaOp
import Derived.Test.YtlfeohglfjnnhaaSpx0
namespace Go.Proofs.Ytlfeohglfjnnhaa.Sp
open Go.RowKit Go.Proofs.YtlfeohglfjnnhaaW.PrintWords Go.Proofs.YtlfeohglfjnnhaaW.PrintLast Go.Proofs.Ytlfeohglfjnnhaa.Op
set_option linter.unusedVariables false
end Go.Proofs.Ytlfeohglfjnnhaa.Sp
