-- PRINTED by print.py (a twelfth state) out of the translation. Not trusted: Lean checks it.
import Derived.Test.YtlfeohglfjnnhaaProg
import Derived.Below
import Derived.Deep.Draws
import Derived.Deep.AppendLies
import Derived.Maps.AppendAt
import Derived.OwnWalk
import Derived.Laws.BytesArg
import Derived.Laws.MakeOwn
import Derived.Laws.OwnMore
import Derived.Deep.OwnRows
import Derived.Tactics
import Derived.Lib.ConvBytes
import Derived.Laws.Slices
import Derived.WalkKit
import Derived.KernelRfl
import Derived.RowKit3
import Derived.Deep.LoopGhost
import Derived.Deep.QuietTactic
import Derived.BigQuiet
import Derived.WideLaws
import Derived.Deep.DeepCutAuto
import Derived.Deep.CutBlock
import Derived.Deep.RegionHeld3
import Derived.Laws.Rows
import Derived.Lib.AppendStr
import Derived.ArgAppend
import Derived.Laws.IdiomCopy
import Derived.OrdersHeld
import Derived.Laws.BitsLemmas
import Derived.RowKit
import Derived.Test.YtlfeohglfjnnhaaHo
import Derived.Shelf.RegionOpenPlain
import Derived.Lib.SliceRun
import Derived.Test.YtlfeohglfjnnhaaWWords
import Derived.Test.YtlfeohglfjnnhaaWLast
import Derived.Test.YtlfeohglfjnnhaaWTab
import Derived.Test.YtlfeohglfjnnhaaWFour
import Derived.Test.YtlfeohglfjnnhaaWQPut
import Derived.Test.YtlfeohglfjnnhaaWApart
import Derived.Test.YtlfeohglfjnnhaaWArr
import Derived.Test.YtlfeohglfjnnhaaWZeros
import Derived.Test.YtlfeohglfjnnhaaWFoot
import Derived.Test.YtlfeohglfjnnhaaWKept
import Derived.Test.YtlfeohglfjnnhaaWShare
import Derived.Test.YtlfeohglfjnnhaaWN
import Derived.Test.YtlfeohglfjnnhaaWFootNe
import Derived.Test.YtlfeohglfjnnhaaWAt
import Derived.Test.YtlfeohglfjnnhaaWEqStruct
import Derived.Test.YtlfeohglfjnnhaaWRepsOne
import Derived.Test.YtlfeohglfjnnhaaWInv
import Derived.Test.YtlfeohglfjnnhaaWInvWords
import Derived.Test.YtlfeohglfjnnhaaWGuard
import Derived.Test.YtlfeohglfjnnhaaWNEv
import Derived.Test.YtlfeohglfjnnhaaWMore
namespace Go.Proofs.Ytlfeohglfjnnhaa.Sp
open Go.Proofs.Ytlfeohglfjnnhaa.Ho
open Go.RowKit Go.Proofs.YtlfeohglfjnnhaaW.PrintWords Go.Proofs.YtlfeohglfjnnhaaW.PrintLast Go.Proofs.YtlfeohglfjnnhaaW.PrintMore
attribute [local go_sem] max2_int min2_int max_two min_two max_three min_three max_four min_four   -- for this text's walks alone
set_option linter.unusedVariables false
set_option linter.unusedSimpArgs false



def errW : Option Int → Value
  | none => .nilIface
  | some c => .iface 0 (.int .i64 c)
theorem errW_none : errW none = .nilIface := rfl
theorem errW_some (c : Int) : errW (some c) = .iface 0 (.int .i64 c) := rfl

-- the values' own types

end Go.Proofs.Ytlfeohglfjnnhaa.Sp
