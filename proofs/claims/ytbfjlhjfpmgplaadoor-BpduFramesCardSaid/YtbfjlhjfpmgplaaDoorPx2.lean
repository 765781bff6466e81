-- slim
-- Written by wip/hprint.py (this session's program) through the kit's print program; hand contracts are marked 'by hand'.
import Derived.Test.YtbfjlhjfpmgplaaDoorAbb
import Derived.Test.YtbfjlhjfpmgplaaDoorPx0
namespace Go.Proofs.YtbfjlhjfpmgplaaDoor.P
open Go.RowKit Go.Proofs.YtbfjlhjfpmgplaaDoorW.PrintWords Go.Proofs.YtbfjlhjfpmgplaaDoorW.PrintLast Go.Proofs.YtbfjlhjfpmgplaaDoorW.PrintMore
attribute [local go_sem] max2_int min2_int max_two min_two max_three min_three max_four min_four   -- for this text's walks alone
set_option linter.unusedVariables false
set_option linter.unusedSimpArgs false

theorem eqA35 (d : Nat) (w : World) (x0 y0 : Bool) (x1 y1 : Int) (x2 y2 : Bool) (x3 y3 : Int) :
  (Op.equalIn (d + 2) 35 (.agg #[.bool x0, .int .i64 x1, .bool x2, .int .i64 x3]) (.agg #[.bool y0, .int .i64 y1, .bool y2, .int .i64 y3])).run Tryd.prog w = .ok (x0 == y0 && (x1 == y1 && (x2 == y2 && (x3 == y3)))) w := by
 refine eqA_of Tryd.underlying35 qf ?_
 refine eqf_cons qa qg qg qe ?_
 refine eqf_cons qa qg qg qe ?_
 refine eqf_cons qa qg qg qe ?_
 exact eqf_last qa qg qg qe
theorem eqA37 (d : Nat) (w : World) (x0 y0 : Int) (x1 y1 : Int) (x2 y2 : Bool) (x3 y3 : Int) (x4 y4 : Bool) (x5 y5 : Int) (x6 y6 : Int) (x7 y7 : ByteArray) :
  (Op.equalIn (d + 3) 37 (.agg #[.int .u64 x0, .int .u64 x1, .bool x2, .int .i64 x3, .bool x4, .int .i64 x5, .int .i64 x6, .string x7]) (.agg #[.int .u64 y0, .int .u64 y1, .bool y2, .int .i64 y3, .bool y4, .int .i64 y5, .int .i64 y6, .string y7])).run Tryd.prog w = .ok (x0 == y0 && (x1 == y1 && ((x2 == y2 && (x3 == y3 && (x4 == y4 && (x5 == y5)))) && (x6 == y6 && (x7.toList == y7.toList))))) w := by
 refine eqA_of Tryd.underlying37 qf ?_
 refine eqf_cons qa qg qg qe ?_
 refine eqf_cons qa qg qg qe ?_
 refine eqf_cons qa qe qe (eqA35 (d + 0) w _ _ _ _ _ _ _ _) ?_
 refine eqf_cons qa qg qg qe ?_
 exact eqf_last qa qg qg qe
end Go.Proofs.YtbfjlhjfpmgplaaDoor.P
