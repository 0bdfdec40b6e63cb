-- Written by a program of this session (wip/given.py) for this claim.
import Derived.Test.YtahnncccdlblgaaProg
import Derived.Below
import Derived.Deep.Draws
import Derived.Deep.AppendLies
import Derived.Maps.AppendAt
import Derived.OwnWalk
import Derived.Laws.BytesArg
import Derived.Laws.MakeOwn
import Derived.Laws.OwnMore
import Derived.Deep.OwnRows
import Derived.Tactics
import Derived.Lib.ConvBytes
import Derived.Laws.Slices
import Derived.WalkKit
import Derived.KernelRfl
import Derived.RowKit3
import Derived.Deep.LoopGhost
import Derived.Deep.QuietTactic
import Derived.BigQuiet
import Derived.WideLaws
import Derived.Deep.DeepCutAuto
import Derived.Deep.CutBlock
import Derived.Deep.RegionHeld3
import Derived.Laws.Rows
import Derived.Lib.AppendStr
import Derived.ArgAppend
import Derived.Laws.IdiomCopy
import Derived.OrdersHeld
import Derived.Laws.BitsLemmas
import Derived.RowKit
import Derived.Test.YtahnncccdlblgaaGput
import Derived.Test.YtahnncccdlblgaaWWords
import Derived.Test.YtahnncccdlblgaaWLast
import Derived.Test.YtahnncccdlblgaaWTab
import Derived.Test.YtahnncccdlblgaaWFour
import Derived.Test.YtahnncccdlblgaaWQPut
import Derived.Test.YtahnncccdlblgaaWApart
import Derived.Test.YtahnncccdlblgaaWArr
import Derived.Test.YtahnncccdlblgaaWZeros
import Derived.Test.YtahnncccdlblgaaWFoot
import Derived.Test.YtahnncccdlblgaaWKept
import Derived.Test.YtahnncccdlblgaaWShare
import Derived.Test.YtahnncccdlblgaaWN
import Derived.Test.YtahnncccdlblgaaWFootNe
import Derived.Test.YtahnncccdlblgaaWAt
import Derived.Test.YtahnncccdlblgaaWEqStruct
import Derived.Test.YtahnncccdlblgaaWRepsOne
import Derived.Test.YtahnncccdlblgaaWInv
import Derived.Test.YtahnncccdlblgaaWInvWords
import Derived.Test.YtahnncccdlblgaaWGuard
import Derived.Test.YtahnncccdlblgaaWNEv
import Derived.Test.YtahnncccdlblgaaWMore
namespace Go.Proofs.Ytahnncccdlblgaa.BRef
open Go.RowKit Go.Proofs.Ytahnncccdlblgaa.G Go.Proofs.YtahnncccdlblgaaW.PrintWords Go.Proofs.YtahnncccdlblgaaW.PrintLast Go.Proofs.YtahnncccdlblgaaW.PrintMore
attribute [local go_sem] max2_int min2_int max_two min_two max_three min_three max_four min_four   -- for this text's walks alone
set_option linter.unusedVariables false
set_option linter.unusedSimpArgs false



def errW : Option Int → Value
  | none => .nilIface
  | some c => .iface 0 (.int .i64 c)
theorem errW_none : errW none = .nilIface := rfl
theorem errW_some (c : Int) : errW (some c) = .iface 0 (.int .i64 c) := rfl

theorem info5 : (Try.prog.info? 5).map (fun i => (i.zero, i.size, i.bytes)) = some (some (.int .u8 0), 1, 1) := by kernel_rfl
-- the values' own types

end Go.Proofs.Ytahnncccdlblgaa.BRef
