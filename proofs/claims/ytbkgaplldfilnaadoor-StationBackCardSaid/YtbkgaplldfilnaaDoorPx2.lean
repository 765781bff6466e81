-- slim
-- Written by wip/hprint.py (this session's program) through the kit's print program; hand contracts are marked 'by hand'.
import Derived.Test.YtbkgaplldfilnaaDoorAbb
import Derived.Test.YtbkgaplldfilnaaDoorPx0
namespace Go.Proofs.YtbkgaplldfilnaaDoor.P
open Go.RowKit Go.Proofs.YtbkgaplldfilnaaDoorW.PrintWords Go.Proofs.YtbkgaplldfilnaaDoorW.PrintLast Go.Proofs.YtbkgaplldfilnaaDoorW.PrintMore
attribute [local go_sem] max2_int min2_int max_two min_two max_three min_three max_four min_four   -- for this text's walks alone
set_option linter.unusedVariables false
set_option linter.unusedSimpArgs false

theorem eqA35 (d : Nat) (w : World) (x0 y0 : Int) (x1 y1 : Int) (x2 y2 : Int) (x3 y3 : Int) (x4 y4 : Int) :
  (Op.equalIn (d + 2) 35 (.agg #[.int .i64 x0, .int .u64 x1, .int .u32 x2, .int .u64 x3, .int .u32 x4]) (.agg #[.int .i64 y0, .int .u64 y1, .int .u32 y2, .int .u64 y3, .int .u32 y4])).run Tryd.prog w = .ok (x0 == y0 && (x1 == y1 && (x2 == y2 && (x3 == y3 && (x4 == y4))))) w := by
 refine eqA_of Tryd.underlying35 qg3m ?_
 refine eqf_cons qgcr qk3u qk3u (by go_simp) ?_
 refine eqf_cons qgcr qk3u qk3u (by go_simp) ?_
 refine eqf_cons qgcr qk3u qk3u (by go_simp) ?_
 refine eqf_cons qgcr qk3u qk3u (by go_simp) ?_
 exact eqf_last qgcr qk3u qk3u (by go_simp)
theorem eql35 {ops : Array Oper} {rest : List Oper} {o : Oper} {a : Act} {Q : Exit → Act → World → Prop} {W : World} {x y : Operand} {x0 y0 : Int} {x1 y1 : Int} {x2 y2 : Int} {x3 y3 : Int} {x4 y4 : Int} (ho : o.op = .binOp .eql 35 x y 35) (hgd : o.guard = none) (hx : a.eval x = .agg #[.int .i64 x0, .int .u64 x1, .int .u32 x2, .int .u64 x3, .int .u32 x4]) (hy : a.eval y = .agg #[.int .i64 y0, .int .u64 y1, .int .u32 y2, .int .u64 y3, .int .u32 y4]) (q : Bool) (hq : (x0 == y0 && (x1 == y1 && (x2 == y2 && (x3 == y3 && (x4 == y4))))) = q) (h : wpList Tryd.prog ops Q rest (a.put o.dst (.bool q)) W) : wpList Tryd.prog ops Q (o :: rest) a W := by
  refine Kd.event_run hgd ?_ h
  unfold execOp
  rw [ho]
  generalize a.eval = E at *
  simp [go_sem, hx, hy, eqA35, -Bool.and_eq_true]
  try rw [hq]
theorem neql35 {ops : Array Oper} {rest : List Oper} {o : Oper} {a : Act} {Q : Exit → Act → World → Prop} {W : World} {x y : Operand} {x0 y0 : Int} {x1 y1 : Int} {x2 y2 : Int} {x3 y3 : Int} {x4 y4 : Int} (ho : o.op = .binOp .neq 35 x y 35) (hgd : o.guard = none) (hx : a.eval x = .agg #[.int .i64 x0, .int .u64 x1, .int .u32 x2, .int .u64 x3, .int .u32 x4]) (hy : a.eval y = .agg #[.int .i64 y0, .int .u64 y1, .int .u32 y2, .int .u64 y3, .int .u32 y4]) (q : Bool) (hq : (!(x0 == y0 && (x1 == y1 && (x2 == y2 && (x3 == y3 && (x4 == y4)))))) = q) (h : wpList Tryd.prog ops Q rest (a.put o.dst (.bool q)) W) : wpList Tryd.prog ops Q (o :: rest) a W := by
  refine Kd.event_run hgd ?_ h
  unfold execOp
  rw [ho]
  generalize a.eval = E at *
  simp [go_sem, hx, hy, eqA35, -Bool.and_eq_true]
  try (rw [← hq]; simp)
end Go.Proofs.YtbkgaplldfilnaaDoor.P
