-- Written by a program of this session (wip/pp.py over the kit's print.py). Lean checks it.
import Derived.Test.YtbecojmhjkhifaaDoorProg
import Derived.Below
import Derived.Deep.Draws
import Derived.Deep.AppendLies
import Derived.Maps.AppendAt
import Derived.OwnWalk
import Derived.Laws.BytesArg
import Derived.Laws.MakeOwn
import Derived.Laws.OwnMore
import Derived.Deep.OwnRows
import Derived.Tactics
import Derived.Lib.ConvBytes
import Derived.Laws.Slices
import Derived.WalkKit
import Derived.KernelRfl
import Derived.RowKit3
import Derived.Deep.LoopGhost
import Derived.Deep.QuietTactic
import Derived.BigQuiet
import Derived.WideLaws
import Derived.Deep.DeepCutAuto
import Derived.Deep.CutBlock
import Derived.Deep.RegionHeld3
import Derived.Laws.Rows
import Derived.Lib.AppendStr
import Derived.ArgAppend
import Derived.Laws.IdiomCopy
import Derived.OrdersHeld
import Derived.Laws.BitsLemmas
import Derived.RowKit
import Derived.Test.YtbecojmhjkhifaaDoorH2
import Derived.Test.YtbecojmhjkhifaaDoorH3
import Derived.Test.YtbecojmhjkhifaaDoorWWords
import Derived.Test.YtbecojmhjkhifaaDoorWLast
import Derived.Test.YtbecojmhjkhifaaDoorWTab
import Derived.Test.YtbecojmhjkhifaaDoorWFour
import Derived.Test.YtbecojmhjkhifaaDoorWQPut
import Derived.Test.YtbecojmhjkhifaaDoorWApart
import Derived.Test.YtbecojmhjkhifaaDoorWArr
import Derived.Test.YtbecojmhjkhifaaDoorWZeros
import Derived.Test.YtbecojmhjkhifaaDoorWFoot
import Derived.Test.YtbecojmhjkhifaaDoorWKept
import Derived.Test.YtbecojmhjkhifaaDoorWShare
import Derived.Test.YtbecojmhjkhifaaDoorWN
import Derived.Test.YtbecojmhjkhifaaDoorWFootNe
import Derived.Test.YtbecojmhjkhifaaDoorWAt
import Derived.Test.YtbecojmhjkhifaaDoorWEqStruct
import Derived.Test.YtbecojmhjkhifaaDoorWRepsOne
import Derived.Test.YtbecojmhjkhifaaDoorWInv
import Derived.Test.YtbecojmhjkhifaaDoorWInvWords
import Derived.Test.YtbecojmhjkhifaaDoorWGuard
import Derived.Test.YtbecojmhjkhifaaDoorWNEv
import Derived.Test.YtbecojmhjkhifaaDoorWMore
namespace Go.Proofs.YtbecojmhjkhifaaDoor.K
open Go.RowKit Go.Proofs.YtbecojmhjkhifaaDoorW.PrintWords Go.Proofs.YtbecojmhjkhifaaDoorW.PrintLast Go.Proofs.YtbecojmhjkhifaaDoorW.PrintMore
attribute [local go_sem] max2_int min2_int max_two min_two max_three min_three max_four min_four   -- for this text's walks alone
set_option linter.unusedVariables false
set_option linter.unusedSimpArgs false



def errW : Option Int → Value
  | none => .nilIface
  | some c => .iface 0 (.int .i64 c)
theorem errW_none : errW none = .nilIface := rfl
theorem errW_some (c : Int) : errW (some c) = .iface 0 (.int .i64 c) := rfl

theorem info5 : (Tryd.prog.info? 5).map (fun i => (i.zero, i.size, i.bytes)) = some (some (.int .u8 0), 1, 1) := by kernel_rfl
theorem info9 : (Tryd.prog.info? 9).map (fun i => (i.zero, i.size, i.bytes)) = some (some (.string ⟨#[]⟩), 1, 16) := by kernel_rfl
-- the values' own types

end Go.Proofs.YtbecojmhjkhifaaDoor.K
