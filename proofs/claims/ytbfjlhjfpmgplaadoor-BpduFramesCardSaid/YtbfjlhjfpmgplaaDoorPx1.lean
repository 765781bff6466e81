-- slim
-- Written by wip/hprint.py (this session's program) through the kit's print program; hand contracts are marked 'by hand'.
import Derived.Test.YtbfjlhjfpmgplaaDoorAbb
import Derived.Test.YtbfjlhjfpmgplaaDoorPx0
namespace Go.Proofs.YtbfjlhjfpmgplaaDoor.P
open Go.RowKit Go.Proofs.YtbfjlhjfpmgplaaDoorW.PrintWords Go.Proofs.YtbfjlhjfpmgplaaDoorW.PrintLast Go.Proofs.YtbfjlhjfpmgplaaDoorW.PrintMore
attribute [local go_sem] max2_int min2_int max_two min_two max_three min_three max_four min_four   -- for this text's walks alone
set_option linter.unusedVariables false
set_option linter.unusedSimpArgs false

theorem eqA24 (d : Nat) (w : World) (x0 y0 : Int) (x1 y1 : Bool) (x2 y2 : Bool) (x3 y3 : Bool) (x4 y4 : Bool) (x5 y5 : Bool) (x6 y6 : Bool) (x7 y7 : Int) (x8 y8 : Int) (x9 y9 : Int) (x10 y10 : Int) (x11 y11 : Int) (x12 y12 : Int) (x13 y13 : Int) (x14 y14 : Int) (x15 y15 : Int) :
  (Op.equalIn (d + 2) 24 (.agg #[.int .i64 x0, .bool x1, .bool x2, .bool x3, .bool x4, .bool x5, .bool x6, .int .i64 x7, .int .u64 x8, .int .i64 x9, .int .u64 x10, .int .i64 x11, .int .i64 x12, .int .i64 x13, .int .i64 x14, .int .i64 x15]) (.agg #[.int .i64 y0, .bool y1, .bool y2, .bool y3, .bool y4, .bool y5, .bool y6, .int .i64 y7, .int .u64 y8, .int .i64 y9, .int .u64 y10, .int .i64 y11, .int .i64 y12, .int .i64 y13, .int .i64 y14, .int .i64 y15])).run Tryd.prog w = .ok (x0 == y0 && (x1 == y1 && (x2 == y2 && (x3 == y3 && (x4 == y4 && (x5 == y5 && (x6 == y6 && (x7 == y7 && (x8 == y8 && (x9 == y9 && (x10 == y10 && (x11 == y11 && (x12 == y12 && (x13 == y13 && (x14 == y14 && (x15 == y15)))))))))))))))) w := by
 refine eqA_of Tryd.underlying24 qf ?_
 refine eqf_cons qa qg qg qe ?_
 refine eqf_cons qa qg qg qe ?_
 refine eqf_cons qa qg qg qe ?_
 refine eqf_cons qa qg qg qe ?_
 refine eqf_cons qa qg qg qe ?_
 refine eqf_cons qa qg qg qe ?_
 refine eqf_cons qa qg qg qe ?_
 refine eqf_cons qa qg qg qe ?_
 refine eqf_cons qa qg qg qe ?_
 refine eqf_cons qa qg qg qe ?_
 refine eqf_cons qa qg qg qe ?_
 refine eqf_cons qa qg qg qe ?_
 refine eqf_cons qa qg qg qe ?_
 refine eqf_cons qa qg qg qe ?_
 refine eqf_cons qa qg qg qe ?_
 exact eqf_last qa qg qg qe
theorem eql24 {ops : Array Oper} {rest : List Oper} {o : Oper} {a : Act} {Q : Exit → Act → World → Prop} {W : World} {x y : Operand} {x0 y0 : Int} {x1 y1 : Bool} {x2 y2 : Bool} {x3 y3 : Bool} {x4 y4 : Bool} {x5 y5 : Bool} {x6 y6 : Bool} {x7 y7 : Int} {x8 y8 : Int} {x9 y9 : Int} {x10 y10 : Int} {x11 y11 : Int} {x12 y12 : Int} {x13 y13 : Int} {x14 y14 : Int} {x15 y15 : Int} (ho : o.op = .binOp .eql 24 x y 24) (hgd : o.guard = none) (hx : a.eval x = .agg #[.int .i64 x0, .bool x1, .bool x2, .bool x3, .bool x4, .bool x5, .bool x6, .int .i64 x7, .int .u64 x8, .int .i64 x9, .int .u64 x10, .int .i64 x11, .int .i64 x12, .int .i64 x13, .int .i64 x14, .int .i64 x15]) (hy : a.eval y = .agg #[.int .i64 y0, .bool y1, .bool y2, .bool y3, .bool y4, .bool y5, .bool y6, .int .i64 y7, .int .u64 y8, .int .i64 y9, .int .u64 y10, .int .i64 y11, .int .i64 y12, .int .i64 y13, .int .i64 y14, .int .i64 y15]) (q : Bool) (hq : (x0 == y0 && (x1 == y1 && (x2 == y2 && (x3 == y3 && (x4 == y4 && (x5 == y5 && (x6 == y6 && (x7 == y7 && (x8 == y8 && (x9 == y9 && (x10 == y10 && (x11 == y11 && (x12 == y12 && (x13 == y13 && (x14 == y14 && (x15 == y15)))))))))))))))) = q) (h : wpList Tryd.prog ops Q rest (a.put o.dst (.bool q)) W) : wpList Tryd.prog ops Q (o :: rest) a W := by
  refine Kd.event_run hgd ?_ h
  unfold execOp
  rw [ho]
  generalize a.eval = E at *
  simp [go_sem, hx, hy, eqA24, -Bool.and_eq_true]
  try rw [hq]
theorem neql24 {ops : Array Oper} {rest : List Oper} {o : Oper} {a : Act} {Q : Exit → Act → World → Prop} {W : World} {x y : Operand} {x0 y0 : Int} {x1 y1 : Bool} {x2 y2 : Bool} {x3 y3 : Bool} {x4 y4 : Bool} {x5 y5 : Bool} {x6 y6 : Bool} {x7 y7 : Int} {x8 y8 : Int} {x9 y9 : Int} {x10 y10 : Int} {x11 y11 : Int} {x12 y12 : Int} {x13 y13 : Int} {x14 y14 : Int} {x15 y15 : Int} (ho : o.op = .binOp .neq 24 x y 24) (hgd : o.guard = none) (hx : a.eval x = .agg #[.int .i64 x0, .bool x1, .bool x2, .bool x3, .bool x4, .bool x5, .bool x6, .int .i64 x7, .int .u64 x8, .int .i64 x9, .int .u64 x10, .int .i64 x11, .int .i64 x12, .int .i64 x13, .int .i64 x14, .int .i64 x15]) (hy : a.eval y = .agg #[.int .i64 y0, .bool y1, .bool y2, .bool y3, .bool y4, .bool y5, .bool y6, .int .i64 y7, .int .u64 y8, .int .i64 y9, .int .u64 y10, .int .i64 y11, .int .i64 y12, .int .i64 y13, .int .i64 y14, .int .i64 y15]) (q : Bool) (hq : (!(x0 == y0 && (x1 == y1 && (x2 == y2 && (x3 == y3 && (x4 == y4 && (x5 == y5 && (x6 == y6 && (x7 == y7 && (x8 == y8 && (x9 == y9 && (x10 == y10 && (x11 == y11 && (x12 == y12 && (x13 == y13 && (x14 == y14 && (x15 == y15))))))))))))))))) = q) (h : wpList Tryd.prog ops Q rest (a.put o.dst (.bool q)) W) : wpList Tryd.prog ops Q (o :: rest) a W := by
  refine Kd.event_run hgd ?_ h
  unfold execOp
  rw [ho]
  generalize a.eval = E at *
  simp [go_sem, hx, hy, eqA24, -Bool.and_eq_true]
  try (rw [← hq]; simp)
end Go.Proofs.YtbfjlhjfpmgplaaDoor.P
