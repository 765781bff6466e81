-- squeezed
-- Written by wip/hprint.py (this session's program) through the kit's print program; hand contracts are marked 'by hand'.
import Derived.Test.YtigagipeaheclaaDoorProg
import Derived.Below
import Derived.Deep.Draws
import Derived.Deep.AppendLies
import Derived.Maps.AppendAt
import Derived.OwnWalk
import Derived.Laws.BytesArg
import Derived.Laws.MakeOwn
import Derived.Laws.OwnMore
import Derived.Deep.OwnRows
import Derived.Tactics
import Derived.Lib.ConvBytes
import Derived.Laws.Slices
import Derived.WalkKit
import Derived.KernelRfl
import Derived.RowKit3
import Derived.Deep.LoopGhost
import Derived.Deep.QuietTactic
import Derived.BigQuiet
import Derived.WideLaws
import Derived.Deep.DeepCutAuto
import Derived.Deep.CutBlock
import Derived.Deep.RegionHeld3
import Derived.Laws.Rows
import Derived.Lib.AppendStr
import Derived.ArgAppend
import Derived.Laws.IdiomCopy
import Derived.OrdersHeld
import Derived.Laws.BitsLemmas
import Derived.RowKit
import Derived.Test.YtigagipeaheclaaDoorAsOdd
import Derived.Test.YtigagipeaheclaaDoorShelf
import Derived.Test.YtigagipeaheclaaDoorWWords
import Derived.Test.YtigagipeaheclaaDoorWLast
import Derived.Test.YtigagipeaheclaaDoorWTab
import Derived.Test.YtigagipeaheclaaDoorWFour
import Derived.Test.YtigagipeaheclaaDoorWQPut
import Derived.Test.YtigagipeaheclaaDoorWApart
import Derived.Test.YtigagipeaheclaaDoorWArr
import Derived.Test.YtigagipeaheclaaDoorWZeros
import Derived.Test.YtigagipeaheclaaDoorWFoot
import Derived.Test.YtigagipeaheclaaDoorWKept
import Derived.Test.YtigagipeaheclaaDoorWShare
import Derived.Test.YtigagipeaheclaaDoorWN
import Derived.Test.YtigagipeaheclaaDoorWFootNe
import Derived.Test.YtigagipeaheclaaDoorWAt
import Derived.Test.YtigagipeaheclaaDoorWEqStruct
import Derived.Test.YtigagipeaheclaaDoorWRepsOne
import Derived.Test.YtigagipeaheclaaDoorWInv
import Derived.Test.YtigagipeaheclaaDoorWInvWords
import Derived.Test.YtigagipeaheclaaDoorWGuard
import Derived.Test.YtigagipeaheclaaDoorWNEv
import Derived.Test.YtigagipeaheclaaDoorWMore
namespace Go.Proofs.YtigagipeaheclaaDoor.P
open Go.RowKit Go.Proofs.YtigagipeaheclaaDoorW.PrintWords Go.Proofs.YtigagipeaheclaaDoorW.PrintLast Go.Proofs.YtigagipeaheclaaDoorW.PrintMore
attribute [local go_sem] max2_int min2_int max_two min_two max_three min_three max_four min_four   -- for this text's walks alone
set_option linter.unusedVariables false
set_option linter.unusedSimpArgs false



def errW : Option Int → Value
 | none => .nilIface
 | some c => .iface 62 (.agg #[.int .i64 c])
theorem errW_none : errW none = .nilIface := rfl
theorem errW_some (c : Int) : errW (some c) = .iface 62 (.agg #[.int .i64 c]) := rfl

theorem info5 : (Tryd.prog.info? 5).map (fun i => (i.zero, i.size, i.bytes)) = some (some (.int .u8 0), 1, 1) := by kernel_rfl
theorem info9 : (Tryd.prog.info? 9).map (fun i => (i.zero, i.size, i.bytes)) = some (some (.string ⟨#[]⟩), 1, 16) := by kernel_rfl
-- the values' own types

end Go.Proofs.YtigagipeaheclaaDoor.P
