-- Laid by a program of this session out of the translation; Lean checks it.
import Derived.Test.YtnikfjfcbpeieaaProg
import Derived.Below
import Derived.Deep.Draws
import Derived.Deep.AppendLies
import Derived.Maps.AppendAt
import Derived.OwnWalk
import Derived.Laws.BytesArg
import Derived.Laws.MakeOwn
import Derived.Laws.OwnMore
import Derived.Deep.OwnRows
import Derived.Tactics
import Derived.Lib.ConvBytes
import Derived.Laws.Slices
import Derived.WalkKit
import Derived.KernelRfl
import Derived.RowKit3
import Derived.Deep.LoopGhost
import Derived.Deep.QuietTactic
import Derived.BigQuiet
import Derived.WideLaws
import Derived.Deep.DeepCutAuto
import Derived.Deep.CutBlock
import Derived.Deep.RegionHeld3
import Derived.Laws.Rows
import Derived.Lib.AppendStr
import Derived.ArgAppend
import Derived.Laws.IdiomCopy
import Derived.OrdersHeld
import Derived.Laws.BitsLemmas
import Derived.RowKit
import Derived.Test.YtnikfjfcbpeieaaWWords
import Derived.Test.YtnikfjfcbpeieaaWLast
import Derived.Test.YtnikfjfcbpeieaaWTab
import Derived.Test.YtnikfjfcbpeieaaWFour
import Derived.Test.YtnikfjfcbpeieaaWQPut
import Derived.Test.YtnikfjfcbpeieaaWApart
import Derived.Test.YtnikfjfcbpeieaaWArr
import Derived.Test.YtnikfjfcbpeieaaWZeros
import Derived.Test.YtnikfjfcbpeieaaWFoot
import Derived.Test.YtnikfjfcbpeieaaWKept
import Derived.Test.YtnikfjfcbpeieaaWShare
import Derived.Test.YtnikfjfcbpeieaaWN
import Derived.Test.YtnikfjfcbpeieaaWFootNe
import Derived.Test.YtnikfjfcbpeieaaWAt
import Derived.Test.YtnikfjfcbpeieaaWEqStruct
import Derived.Test.YtnikfjfcbpeieaaWRepsOne
import Derived.Test.YtnikfjfcbpeieaaWInv
import Derived.Test.YtnikfjfcbpeieaaWInvWords
import Derived.Test.YtnikfjfcbpeieaaWGuard
import Derived.Test.YtnikfjfcbpeieaaWNEv
import Derived.Test.YtnikfjfcbpeieaaWMore
namespace Go.Proofs.Ytnikfjfcbpeieaa.PMa
open Go.RowKit Go.Proofs.YtnikfjfcbpeieaaW.PrintWords Go.Proofs.YtnikfjfcbpeieaaW.PrintLast Go.Proofs.YtnikfjfcbpeieaaW.PrintMore
attribute [local go_sem] max2_int min2_int max_two min_two max_three min_three max_four min_four   -- for this text's walks alone
set_option linter.unusedVariables false
set_option linter.unusedSimpArgs false



def errW : Option Int → Value
  | none => .nilIface
  | some c => .iface 0 (.int .i64 c)
theorem errW_none : errW none = .nilIface := rfl
theorem errW_some (c : Int) : errW (some c) = .iface 0 (.int .i64 c) := rfl

-- the values' own types

end Go.Proofs.Ytnikfjfcbpeieaa.PMa
