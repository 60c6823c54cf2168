-- Written by a program (wip/myprint) out of the translation; Lean checks it.
import Derived.Test.YtmmgiolhfekplaaProg
import Derived.Below
import Derived.Deep.Draws
import Derived.Deep.AppendLies
import Derived.Maps.AppendAt
import Derived.OwnWalk
import Derived.Laws.BytesArg
import Derived.Laws.MakeOwn
import Derived.Laws.OwnMore
import Derived.Deep.OwnRows
import Derived.Tactics
import Derived.Lib.ConvBytes
import Derived.Laws.Slices
import Derived.WalkKit
import Derived.KernelRfl
import Derived.RowKit3
import Derived.Deep.LoopGhost
import Derived.Deep.QuietTactic
import Derived.BigQuiet
import Derived.WideLaws
import Derived.Deep.DeepCutAuto
import Derived.Deep.CutBlock
import Derived.Deep.RegionHeld3
import Derived.Laws.Rows
import Derived.Lib.AppendStr
import Derived.ArgAppend
import Derived.Laws.IdiomCopy
import Derived.OrdersHeld
import Derived.Laws.BitsLemmas
import Derived.RowKit
import Derived.Test.YtmmgiolhfekplaaExtA
import Derived.Test.YtmmgiolhfekplaaWWords
import Derived.Test.YtmmgiolhfekplaaWLast
import Derived.Test.YtmmgiolhfekplaaWTab
import Derived.Test.YtmmgiolhfekplaaWFour
import Derived.Test.YtmmgiolhfekplaaWQPut
import Derived.Test.YtmmgiolhfekplaaWApart
import Derived.Test.YtmmgiolhfekplaaWArr
import Derived.Test.YtmmgiolhfekplaaWZeros
import Derived.Test.YtmmgiolhfekplaaWFoot
import Derived.Test.YtmmgiolhfekplaaWKept
import Derived.Test.YtmmgiolhfekplaaWShare
import Derived.Test.YtmmgiolhfekplaaWN
import Derived.Test.YtmmgiolhfekplaaWFootNe
import Derived.Test.YtmmgiolhfekplaaWAt
import Derived.Test.YtmmgiolhfekplaaWEqStruct
import Derived.Test.YtmmgiolhfekplaaWRepsOne
import Derived.Test.YtmmgiolhfekplaaWInv
import Derived.Test.YtmmgiolhfekplaaWInvWords
import Derived.Test.YtmmgiolhfekplaaWGuard
import Derived.Test.YtmmgiolhfekplaaWNEv
import Derived.Test.YtmmgiolhfekplaaWMore
namespace Go.Proofs.Ytmmgiolhfekplaa.PDiv64
open Go.RowKit Go.Proofs.Ytmmgiolhfekplaa.Ext Go.Proofs.YtmmgiolhfekplaaW.PrintWords Go.Proofs.YtmmgiolhfekplaaW.PrintLast Go.Proofs.YtmmgiolhfekplaaW.PrintMore
attribute [local go_sem] max2_int min2_int max_two min_two max_three min_three max_four min_four   -- for this text's walks alone
set_option linter.unusedVariables false
set_option linter.unusedSimpArgs false



def errW : Option Int → Value
  | none => .nilIface
  | some c => .iface 0 (.int .i64 c)
theorem errW_none : errW none = .nilIface := rfl
theorem errW_some (c : Int) : errW (some c) = .iface 0 (.int .i64 c) := rfl

-- the values' own types

end Go.Proofs.Ytmmgiolhfekplaa.PDiv64
