-- Written by a program of this session (wip/pp.py over the kit's print.py). Lean checks it.
import Derived.Test.YtggcipjdhhnnkaaDoorProg
import Derived.Below
import Derived.Deep.Draws
import Derived.Deep.AppendLies
import Derived.Maps.AppendAt
import Derived.OwnWalk
import Derived.Laws.BytesArg
import Derived.Laws.MakeOwn
import Derived.Laws.OwnMore
import Derived.Deep.OwnRows
import Derived.Tactics
import Derived.Lib.ConvBytes
import Derived.Laws.Slices
import Derived.WalkKit
import Derived.KernelRfl
import Derived.RowKit3
import Derived.Deep.LoopGhost
import Derived.Deep.QuietTactic
import Derived.BigQuiet
import Derived.WideLaws
import Derived.Deep.DeepCutAuto
import Derived.Deep.CutBlock
import Derived.Deep.RegionHeld3
import Derived.Laws.Rows
import Derived.Lib.AppendStr
import Derived.ArgAppend
import Derived.Laws.IdiomCopy
import Derived.OrdersHeld
import Derived.Laws.BitsLemmas
import Derived.RowKit
import Derived.Test.YtggcipjdhhnnkaaDoorHM
import Derived.Test.YtggcipjdhhnnkaaDoorHNC
import Derived.Test.YtggcipjdhhnnkaaDoorWWords
import Derived.Test.YtggcipjdhhnnkaaDoorWLast
import Derived.Test.YtggcipjdhhnnkaaDoorWTab
import Derived.Test.YtggcipjdhhnnkaaDoorWFour
import Derived.Test.YtggcipjdhhnnkaaDoorWQPut
import Derived.Test.YtggcipjdhhnnkaaDoorWApart
import Derived.Test.YtggcipjdhhnnkaaDoorWArr
import Derived.Test.YtggcipjdhhnnkaaDoorWZeros
import Derived.Test.YtggcipjdhhnnkaaDoorWFoot
import Derived.Test.YtggcipjdhhnnkaaDoorWKept
import Derived.Test.YtggcipjdhhnnkaaDoorWShare
import Derived.Test.YtggcipjdhhnnkaaDoorWN
import Derived.Test.YtggcipjdhhnnkaaDoorWFootNe
import Derived.Test.YtggcipjdhhnnkaaDoorWAt
import Derived.Test.YtggcipjdhhnnkaaDoorWEqStruct
import Derived.Test.YtggcipjdhhnnkaaDoorWRepsOne
import Derived.Test.YtggcipjdhhnnkaaDoorWInv
import Derived.Test.YtggcipjdhhnnkaaDoorWInvWords
import Derived.Test.YtggcipjdhhnnkaaDoorWGuard
import Derived.Test.YtggcipjdhhnnkaaDoorWNEv
import Derived.Test.YtggcipjdhhnnkaaDoorWMore
namespace Go.Proofs.YtggcipjdhhnnkaaDoor.K
open Go.RowKit Go.Proofs.YtggcipjdhhnnkaaDoorW.PrintWords Go.Proofs.YtggcipjdhhnnkaaDoorW.PrintLast Go.Proofs.YtggcipjdhhnnkaaDoorW.PrintMore
attribute [local go_sem] max2_int min2_int max_two min_two max_three min_three max_four min_four   -- for this text's walks alone
set_option linter.unusedVariables false
set_option linter.unusedSimpArgs false



def errW : Option Int → Value
  | none => .nilIface
  | some c => .iface 0 (.int .i64 c)
theorem errW_none : errW none = .nilIface := rfl
theorem errW_some (c : Int) : errW (some c) = .iface 0 (.int .i64 c) := rfl

theorem info9 : (Tryd.prog.info? 9).map (fun i => (i.zero, i.size, i.bytes)) = some (some (.string ⟨#[]⟩), 1, 16) := by kernel_rfl
-- the values' own types

end Go.Proofs.YtggcipjdhhnnkaaDoor.K
