-- Written by wip/hprint.py (this session's program) through the kit's print program; hand contracts are marked 'by hand'.
import Derived.Test.YtgfgebngmjchbaaProg
import Derived.Below
import Derived.Deep.Draws
import Derived.Deep.AppendLies
import Derived.Maps.AppendAt
import Derived.OwnWalk
import Derived.Laws.BytesArg
import Derived.Laws.MakeOwn
import Derived.Laws.OwnMore
import Derived.Deep.OwnRows
import Derived.Tactics
import Derived.Lib.ConvBytes
import Derived.Laws.Slices
import Derived.WalkKit
import Derived.KernelRfl
import Derived.RowKit3
import Derived.Deep.LoopGhost
import Derived.Deep.QuietTactic
import Derived.BigQuiet
import Derived.WideLaws
import Derived.Deep.DeepCutAuto
import Derived.Deep.CutBlock
import Derived.Deep.RegionHeld3
import Derived.Laws.Rows
import Derived.Lib.AppendStr
import Derived.ArgAppend
import Derived.Laws.IdiomCopy
import Derived.OrdersHeld
import Derived.Laws.BitsLemmas
import Derived.RowKit
import Derived.Test.YtgfgebngmjchbaaShelf
import Derived.Test.YtgfgebngmjchbaaWWords
import Derived.Test.YtgfgebngmjchbaaWLast
import Derived.Test.YtgfgebngmjchbaaWTab
import Derived.Test.YtgfgebngmjchbaaWFour
import Derived.Test.YtgfgebngmjchbaaWQPut
import Derived.Test.YtgfgebngmjchbaaWApart
import Derived.Test.YtgfgebngmjchbaaWArr
import Derived.Test.YtgfgebngmjchbaaWZeros
import Derived.Test.YtgfgebngmjchbaaWFoot
import Derived.Test.YtgfgebngmjchbaaWKept
import Derived.Test.YtgfgebngmjchbaaWShare
import Derived.Test.YtgfgebngmjchbaaWN
import Derived.Test.YtgfgebngmjchbaaWFootNe
import Derived.Test.YtgfgebngmjchbaaWAt
import Derived.Test.YtgfgebngmjchbaaWEqStruct
import Derived.Test.YtgfgebngmjchbaaWRepsOne
import Derived.Test.YtgfgebngmjchbaaWInv
import Derived.Test.YtgfgebngmjchbaaWInvWords
import Derived.Test.YtgfgebngmjchbaaWGuard
import Derived.Test.YtgfgebngmjchbaaWNEv
import Derived.Test.YtgfgebngmjchbaaWMore
namespace Go.Proofs.Ytgfgebngmjchbaa.P
open Go.RowKit Go.Proofs.YtgfgebngmjchbaaW.PrintWords Go.Proofs.YtgfgebngmjchbaaW.PrintLast Go.Proofs.YtgfgebngmjchbaaW.PrintMore
attribute [local go_sem] max2_int min2_int max_two min_two max_three min_three max_four min_four   -- for this text's walks alone
set_option linter.unusedVariables false
set_option linter.unusedSimpArgs false



def errW : Option Int → Value
  | none => .nilIface
  | some c => .iface 0 (.int .i64 c)
theorem errW_none : errW none = .nilIface := rfl
theorem errW_some (c : Int) : errW (some c) = .iface 0 (.int .i64 c) := rfl

theorem info5 : (Try.prog.info? 5).map (fun i => (i.zero, i.size, i.bytes)) = some (some (.int .u8 0), 1, 1) := by kernel_rfl
theorem info9 : (Try.prog.info? 9).map (fun i => (i.zero, i.size, i.bytes)) = some (some (.string ⟨#[]⟩), 1, 16) := by kernel_rfl
-- the values' own types

end Go.Proofs.Ytgfgebngmjchbaa.P
