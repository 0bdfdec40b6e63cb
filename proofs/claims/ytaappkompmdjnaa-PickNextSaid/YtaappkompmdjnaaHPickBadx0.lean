-- Written by a program of this session (wip/given.py) for this claim.
import Derived.Test.YtaappkompmdjnaaProg
import Derived.Below
import Derived.Deep.Draws
import Derived.Deep.AppendLies
import Derived.Maps.AppendAt
import Derived.OwnWalk
import Derived.Laws.BytesArg
import Derived.Laws.MakeOwn
import Derived.Laws.OwnMore
import Derived.Deep.OwnRows
import Derived.Tactics
import Derived.Lib.ConvBytes
import Derived.Laws.Slices
import Derived.WalkKit
import Derived.KernelRfl
import Derived.RowKit3
import Derived.Deep.LoopGhost
import Derived.Deep.QuietTactic
import Derived.BigQuiet
import Derived.WideLaws
import Derived.Deep.DeepCutAuto
import Derived.Deep.CutBlock
import Derived.Deep.RegionHeld3
import Derived.Laws.Rows
import Derived.Lib.AppendStr
import Derived.ArgAppend
import Derived.Laws.IdiomCopy
import Derived.OrdersHeld
import Derived.Laws.BitsLemmas
import Derived.RowKit
import Derived.Test.YtaappkompmdjnaaGown
import Derived.Test.YtaappkompmdjnaaWWords
import Derived.Test.YtaappkompmdjnaaWLast
import Derived.Test.YtaappkompmdjnaaWTab
import Derived.Test.YtaappkompmdjnaaWFour
import Derived.Test.YtaappkompmdjnaaWQPut
import Derived.Test.YtaappkompmdjnaaWApart
import Derived.Test.YtaappkompmdjnaaWArr
import Derived.Test.YtaappkompmdjnaaWZeros
import Derived.Test.YtaappkompmdjnaaWFoot
import Derived.Test.YtaappkompmdjnaaWKept
import Derived.Test.YtaappkompmdjnaaWShare
import Derived.Test.YtaappkompmdjnaaWN
import Derived.Test.YtaappkompmdjnaaWFootNe
import Derived.Test.YtaappkompmdjnaaWAt
import Derived.Test.YtaappkompmdjnaaWEqStruct
import Derived.Test.YtaappkompmdjnaaWRepsOne
import Derived.Test.YtaappkompmdjnaaWInv
import Derived.Test.YtaappkompmdjnaaWInvWords
import Derived.Test.YtaappkompmdjnaaWGuard
import Derived.Test.YtaappkompmdjnaaWNEv
import Derived.Test.YtaappkompmdjnaaWMore
import Derived.Test.YtaappkompmdjnaaBPickx0
namespace Go.Proofs.Ytaappkompmdjnaa.HPickBad
open Go.RowKit Go.Proofs.Ytaappkompmdjnaa.BPick Go.Proofs.YtaappkompmdjnaaW.PrintWords Go.Proofs.YtaappkompmdjnaaW.PrintLast Go.Proofs.YtaappkompmdjnaaW.PrintMore
attribute [local go_sem] max2_int min2_int max_two min_two max_three min_three max_four min_four   -- for this text's walks alone
set_option linter.unusedVariables false
set_option linter.unusedSimpArgs false

end Go.Proofs.Ytaappkompmdjnaa.HPickBad
