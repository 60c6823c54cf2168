-- Written by a program (wip/myprint) out of the translation; Lean checks it.
import Derived.Test.YthppiphldaopnaaDoorProg
import Derived.Below
import Derived.Deep.Draws
import Derived.Deep.AppendLies
import Derived.Maps.AppendAt
import Derived.OwnWalk
import Derived.Laws.BytesArg
import Derived.Laws.MakeOwn
import Derived.Laws.OwnMore
import Derived.Deep.OwnRows
import Derived.Tactics
import Derived.Lib.ConvBytes
import Derived.Laws.Slices
import Derived.WalkKit
import Derived.KernelRfl
import Derived.RowKit3
import Derived.Deep.LoopGhost
import Derived.Deep.QuietTactic
import Derived.BigQuiet
import Derived.WideLaws
import Derived.Deep.DeepCutAuto
import Derived.Deep.CutBlock
import Derived.Deep.RegionHeld3
import Derived.Laws.Rows
import Derived.Lib.AppendStr
import Derived.ArgAppend
import Derived.Laws.IdiomCopy
import Derived.OrdersHeld
import Derived.Laws.BitsLemmas
import Derived.RowKit
import Derived.Test.YthppiphldaopnaaDoorPShapex4
import Derived.Test.YthppiphldaopnaaDoorWWords
import Derived.Test.YthppiphldaopnaaDoorWLast
import Derived.Test.YthppiphldaopnaaDoorWTab
import Derived.Test.YthppiphldaopnaaDoorWFour
import Derived.Test.YthppiphldaopnaaDoorWQPut
import Derived.Test.YthppiphldaopnaaDoorWApart
import Derived.Test.YthppiphldaopnaaDoorWArr
import Derived.Test.YthppiphldaopnaaDoorWZeros
import Derived.Test.YthppiphldaopnaaDoorWFoot
import Derived.Test.YthppiphldaopnaaDoorWKept
import Derived.Test.YthppiphldaopnaaDoorWShare
import Derived.Test.YthppiphldaopnaaDoorWN
import Derived.Test.YthppiphldaopnaaDoorWFootNe
import Derived.Test.YthppiphldaopnaaDoorWAt
import Derived.Test.YthppiphldaopnaaDoorWEqStruct
import Derived.Test.YthppiphldaopnaaDoorWRepsOne
import Derived.Test.YthppiphldaopnaaDoorWInv
import Derived.Test.YthppiphldaopnaaDoorWInvWords
import Derived.Test.YthppiphldaopnaaDoorWGuard
import Derived.Test.YthppiphldaopnaaDoorWNEv
import Derived.Test.YthppiphldaopnaaDoorWMore
namespace Go.Proofs.YthppiphldaopnaaDoor.PBlk
open Go.RowKit Go.Proofs.YthppiphldaopnaaDoor.Ext Go.Proofs.YthppiphldaopnaaDoor.PShape Go.Proofs.YthppiphldaopnaaDoorW.PrintWords Go.Proofs.YthppiphldaopnaaDoorW.PrintLast Go.Proofs.YthppiphldaopnaaDoorW.PrintMore
attribute [local go_sem] max2_int min2_int max_two min_two max_three min_three max_four min_four   -- for this text's walks alone
set_option linter.unusedVariables false
set_option linter.unusedSimpArgs false



def errW : Option Int → Value
  | none => .nilIface
  | some c => .iface 0 (.int .i64 c)
theorem errW_none : errW none = .nilIface := rfl
theorem errW_some (c : Int) : errW (some c) = .iface 0 (.int .i64 c) := rfl

theorem info66 : (Tryd.prog.info? 66).map (fun i => (i.zero, i.size, i.bytes)) = some (some (.int .u64 0), 1, 8) := by kernel_rfl
-- the values' own types

end Go.Proofs.YthppiphldaopnaaDoor.PBlk
