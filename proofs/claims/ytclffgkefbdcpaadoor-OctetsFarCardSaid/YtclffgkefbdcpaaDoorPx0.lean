-- Written by wip/hprint.py (this session's program) through the kit's print program; hand contracts are marked 'by hand'.
import Derived.Test.YtclffgkefbdcpaaDoorProg
import Derived.Below
import Derived.Deep.Draws
import Derived.Deep.AppendLies
import Derived.Maps.AppendAt
import Derived.OwnWalk
import Derived.Laws.BytesArg
import Derived.Laws.MakeOwn
import Derived.Laws.OwnMore
import Derived.Deep.OwnRows
import Derived.Tactics
import Derived.Lib.ConvBytes
import Derived.Laws.Slices
import Derived.WalkKit
import Derived.KernelRfl
import Derived.RowKit3
import Derived.Deep.LoopGhost
import Derived.Deep.QuietTactic
import Derived.BigQuiet
import Derived.WideLaws
import Derived.Deep.DeepCutAuto
import Derived.Deep.CutBlock
import Derived.Deep.RegionHeld3
import Derived.Laws.Rows
import Derived.Lib.AppendStr
import Derived.ArgAppend
import Derived.Laws.IdiomCopy
import Derived.OrdersHeld
import Derived.Laws.BitsLemmas
import Derived.RowKit
import Derived.BigQuiet
import Derived.Deep.QuietTactic
import Derived.Shelf.Strings.BuilderK
import Derived.Test.YtclffgkefbdcpaaDoorAsErrno
import Derived.Test.YtclffgkefbdcpaaDoorShelf
import Derived.Test.YtclffgkefbdcpaaDoorWWords
import Derived.Test.YtclffgkefbdcpaaDoorWLast
import Derived.Test.YtclffgkefbdcpaaDoorWTab
import Derived.Test.YtclffgkefbdcpaaDoorWFour
import Derived.Test.YtclffgkefbdcpaaDoorWQPut
import Derived.Test.YtclffgkefbdcpaaDoorWApart
import Derived.Test.YtclffgkefbdcpaaDoorWArr
import Derived.Test.YtclffgkefbdcpaaDoorWZeros
import Derived.Test.YtclffgkefbdcpaaDoorWFoot
import Derived.Test.YtclffgkefbdcpaaDoorWKept
import Derived.Test.YtclffgkefbdcpaaDoorWShare
import Derived.Test.YtclffgkefbdcpaaDoorWN
import Derived.Test.YtclffgkefbdcpaaDoorWFootNe
import Derived.Test.YtclffgkefbdcpaaDoorWAt
import Derived.Test.YtclffgkefbdcpaaDoorWEqStruct
import Derived.Test.YtclffgkefbdcpaaDoorWRepsOne
import Derived.Test.YtclffgkefbdcpaaDoorWInv
import Derived.Test.YtclffgkefbdcpaaDoorWInvWords
import Derived.Test.YtclffgkefbdcpaaDoorWGuard
import Derived.Test.YtclffgkefbdcpaaDoorWNEv
import Derived.Test.YtclffgkefbdcpaaDoorWMore
namespace Go.Proofs.YtclffgkefbdcpaaDoor.P
open Go.RowKit Go.Proofs.YtclffgkefbdcpaaDoorW.PrintWords Go.Proofs.YtclffgkefbdcpaaDoorW.PrintLast Go.Proofs.YtclffgkefbdcpaaDoorW.PrintMore
attribute [local go_sem] max2_int min2_int max_two min_two max_three min_three max_four min_four   -- for this text's walks alone
set_option linter.unusedVariables false
set_option linter.unusedSimpArgs false



def errW : Option Int → Value
  | none => .nilIface
  | some c => .iface 54 (.agg #[.int .i64 (c / 64), .iface 23 (.int .i64 (c % 64))])
theorem errW_none : errW none = .nilIface := rfl
theorem errW_some (c : Int) : errW (some c) = .iface 54 (.agg #[.int .i64 (c / 64), .iface 23 (.int .i64 (c % 64))]) := rfl

theorem info5 : (Tryd.prog.info? 5).map (fun i => (i.zero, i.size, i.bytes)) = some (some (.int .u8 0), 1, 1) := by kernel_rfl
-- the values' own types

end Go.Proofs.YtclffgkefbdcpaaDoor.P
