/- VxlanBuilds: the bytes of any frame of any number, and what any bytes tell, is as the document says: for every input (of at most 1700 bytes, as the statement cuts them). -/
import Derived.Test.YthgdphfblajijaaDoorVxlan
import Derived.Test.YthgdphfblajijaaDoorPx8
namespace Go.Proofs.YthgdphfblajijaaDoor.Pure
set_option linter.unusedSimpArgs false
set_option linter.unusedVariables false
open Go Go.RowKit Go.Proofs.YthgdphfblajijaaDoorW.PrintWords Go.Proofs.YthgdphfblajijaaDoorW.PrintLast Go.Proofs.YthgdphfblajijaaDoorW.PrintMore Go.Proofs.YthgdphfblajijaaDoor.L Go.Proofs.YthgdphfblajijaaDoor.P

theorem VxlanBuilds : gangwaylaw08_VxlanBuilds.Pure := by
  intro v s _ _
  refine Ev.rounds ?_
  unfold gangwaylaw08_VxlanBuilds.f
  have h1 := mn_le (s.size : Int) 1700
  have h2 := mn_nonneg (size_nat s) (show (0 : Int) ≤ 1700 by decide)
  refine ev_pos h2 (ev_pos h1.1 ?_)
  have hs : (s.extract 0 (mn (s.size : Int) 1700).toNat).size ≤ 1700 := cut_size s 1700
  generalize s.extract 0 (mn (s.size : Int) 1700).toNat = s at *
  refine ev_succ ?_
  simp only [gangwaylaw08_VxlanBuilds.j0]
  refine Ev.bind (build_ev (by omega)) (Ev.bind (buildR_ev (by omega)) (Ev.bind (parse_ev (by omega)) (Ev.bind (parseR_ev (by omega)) (Ev.bind vxlan_fixed_ev ?_))))
  refine ev_pos rfl (ev_pos rfl (ev_pos rfl (ev_pos rfl (ev_pos rfl (ev_now ?_)))))
  exact beq_iff_eq.2 rfl
end Go.Proofs.YthgdphfblajijaaDoor.Pure
