-- slim
-- Written by wip/hprint.py (this session's program) through the kit's print program; hand contracts are marked 'by hand'.
import Derived.Test.YtbfjlhjfpmgplaaDoorAbb
import Derived.Test.YtbfjlhjfpmgplaaDoorProg
import Derived.Below
import Derived.Deep.Draws
import Derived.Deep.AppendLies
import Derived.Maps.AppendAt
import Derived.OwnWalk
import Derived.Laws.BytesArg
import Derived.Laws.MakeOwn
import Derived.Laws.OwnMore
import Derived.Deep.OwnRows
import Derived.Tactics
import Derived.Lib.ConvBytes
import Derived.Laws.Slices
import Derived.WalkKit
import Derived.KernelRfl
import Derived.RowKit3
import Derived.Deep.LoopGhost
import Derived.Deep.QuietTactic
import Derived.BigQuiet
import Derived.WideLaws
import Derived.Deep.DeepCutAuto
import Derived.Deep.CutBlock
import Derived.Deep.RegionHeld3
import Derived.Laws.Rows
import Derived.Lib.AppendStr
import Derived.ArgAppend
import Derived.Laws.IdiomCopy
import Derived.OrdersHeld
import Derived.Laws.BitsLemmas
import Derived.RowKit
import Derived.Test.YtbfjlhjfpmgplaaDoorWWords
import Derived.Test.YtbfjlhjfpmgplaaDoorWLast
import Derived.Test.YtbfjlhjfpmgplaaDoorWTab
import Derived.Test.YtbfjlhjfpmgplaaDoorWFour
import Derived.Test.YtbfjlhjfpmgplaaDoorWQPut
import Derived.Test.YtbfjlhjfpmgplaaDoorWApart
import Derived.Test.YtbfjlhjfpmgplaaDoorWArr
import Derived.Test.YtbfjlhjfpmgplaaDoorWZeros
import Derived.Test.YtbfjlhjfpmgplaaDoorWFoot
import Derived.Test.YtbfjlhjfpmgplaaDoorWKept
import Derived.Test.YtbfjlhjfpmgplaaDoorWShare
import Derived.Test.YtbfjlhjfpmgplaaDoorWN
import Derived.Test.YtbfjlhjfpmgplaaDoorWFootNe
import Derived.Test.YtbfjlhjfpmgplaaDoorWAt
import Derived.Test.YtbfjlhjfpmgplaaDoorWEqStruct
import Derived.Test.YtbfjlhjfpmgplaaDoorWRepsOne
import Derived.Test.YtbfjlhjfpmgplaaDoorWInv
import Derived.Test.YtbfjlhjfpmgplaaDoorWInvWords
import Derived.Test.YtbfjlhjfpmgplaaDoorWGuard
import Derived.Test.YtbfjlhjfpmgplaaDoorWNEv
import Derived.Test.YtbfjlhjfpmgplaaDoorWMore
namespace Go.Proofs.YtbfjlhjfpmgplaaDoor.P
open Go.RowKit Go.Proofs.YtbfjlhjfpmgplaaDoorW.PrintWords Go.Proofs.YtbfjlhjfpmgplaaDoorW.PrintLast Go.Proofs.YtbfjlhjfpmgplaaDoorW.PrintMore
attribute [local go_sem] max2_int min2_int max_two min_two max_three min_three max_four min_four   -- for this text's walks alone
set_option linter.unusedVariables false
set_option linter.unusedSimpArgs false



def errW : Option Int → Value
 | none => .nilIface
 | some c => .iface 0 (.int .i64 c)
theorem errW_none : errW none = .nilIface := rfl
theorem errW_some (c : Int) : errW (some c) = .iface 0 (.int .i64 c) := rfl

theorem info3 : (Tryd.prog.info? 3).map (fun i => (i.zero, i.size, i.bytes)) = some (some (.int .i64 0), 1, 8) := by kernel_rfl
theorem info5 : (Tryd.prog.info? 5).map (fun i => (i.zero, i.size, i.bytes)) = some (some (.int .u8 0), 1, 1) := by kernel_rfl
-- the values' own types

end Go.Proofs.YtbfjlhjfpmgplaaDoor.P
