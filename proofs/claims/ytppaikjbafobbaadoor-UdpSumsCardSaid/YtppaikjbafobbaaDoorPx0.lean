-- Written by wip/hprint.py (this session's program) through the kit's print program; hand contracts are marked 'by hand'.
import Derived.Test.YtppaikjbafobbaaDoorProg
import Derived.Below
import Derived.Deep.Draws
import Derived.Deep.AppendLies
import Derived.Maps.AppendAt
import Derived.OwnWalk
import Derived.Laws.BytesArg
import Derived.Laws.MakeOwn
import Derived.Laws.OwnMore
import Derived.Deep.OwnRows
import Derived.Tactics
import Derived.Lib.ConvBytes
import Derived.Laws.Slices
import Derived.WalkKit
import Derived.KernelRfl
import Derived.RowKit3
import Derived.Deep.LoopGhost
import Derived.Deep.QuietTactic
import Derived.BigQuiet
import Derived.WideLaws
import Derived.Deep.DeepCutAuto
import Derived.Deep.CutBlock
import Derived.Deep.RegionHeld3
import Derived.Laws.Rows
import Derived.Lib.AppendStr
import Derived.ArgAppend
import Derived.Laws.IdiomCopy
import Derived.OrdersHeld
import Derived.Laws.BitsLemmas
import Derived.RowKit
import Derived.Test.YtppaikjbafobbaaDoorShelf
import Derived.Test.YtppaikjbafobbaaDoorWWords
import Derived.Test.YtppaikjbafobbaaDoorWLast
import Derived.Test.YtppaikjbafobbaaDoorWTab
import Derived.Test.YtppaikjbafobbaaDoorWFour
import Derived.Test.YtppaikjbafobbaaDoorWQPut
import Derived.Test.YtppaikjbafobbaaDoorWApart
import Derived.Test.YtppaikjbafobbaaDoorWArr
import Derived.Test.YtppaikjbafobbaaDoorWZeros
import Derived.Test.YtppaikjbafobbaaDoorWFoot
import Derived.Test.YtppaikjbafobbaaDoorWKept
import Derived.Test.YtppaikjbafobbaaDoorWShare
import Derived.Test.YtppaikjbafobbaaDoorWN
import Derived.Test.YtppaikjbafobbaaDoorWFootNe
import Derived.Test.YtppaikjbafobbaaDoorWAt
import Derived.Test.YtppaikjbafobbaaDoorWEqStruct
import Derived.Test.YtppaikjbafobbaaDoorWRepsOne
import Derived.Test.YtppaikjbafobbaaDoorWInv
import Derived.Test.YtppaikjbafobbaaDoorWInvWords
import Derived.Test.YtppaikjbafobbaaDoorWGuard
import Derived.Test.YtppaikjbafobbaaDoorWNEv
import Derived.Test.YtppaikjbafobbaaDoorWMore
namespace Go.Proofs.YtppaikjbafobbaaDoor.P
open Go.RowKit Go.Proofs.YtppaikjbafobbaaDoorW.PrintWords Go.Proofs.YtppaikjbafobbaaDoorW.PrintLast Go.Proofs.YtppaikjbafobbaaDoorW.PrintMore
attribute [local go_sem] max2_int min2_int max_two min_two max_three min_three max_four min_four   -- for this text's walks alone
set_option linter.unusedVariables false
set_option linter.unusedSimpArgs false



def errW : Option Int → Value
  | none => .nilIface
  | some c => .iface 0 (.int .i64 c)
theorem errW_none : errW none = .nilIface := rfl
theorem errW_some (c : Int) : errW (some c) = .iface 0 (.int .i64 c) := rfl

theorem info5 : (Tryd.prog.info? 5).map (fun i => (i.zero, i.size, i.bytes)) = some (some (.int .u8 0), 1, 1) := by kernel_rfl
theorem info9 : (Tryd.prog.info? 9).map (fun i => (i.zero, i.size, i.bytes)) = some (some (.string ⟨#[]⟩), 1, 16) := by kernel_rfl
-- the values' own types

end Go.Proofs.YtppaikjbafobbaaDoor.P
