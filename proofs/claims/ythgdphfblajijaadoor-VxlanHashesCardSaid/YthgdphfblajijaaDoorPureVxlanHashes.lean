/- VxlanHashes: the number, and the port, of any bytes is as the document says: for every input (of at most 1700 bytes, as the statement cuts them). -/
import Derived.Test.YthgdphfblajijaaDoorVxlan
import Derived.Test.YthgdphfblajijaaDoorPx10
namespace Go.Proofs.YthgdphfblajijaaDoor.Pure
set_option linter.unusedSimpArgs false
set_option linter.unusedVariables false
open Go Go.RowKit Go.Proofs.YthgdphfblajijaaDoorW.PrintWords Go.Proofs.YthgdphfblajijaaDoorW.PrintLast Go.Proofs.YthgdphfblajijaaDoorW.PrintMore Go.Proofs.YthgdphfblajijaaDoor.L Go.Proofs.YthgdphfblajijaaDoor.P

theorem VxlanHashes : gangwaylaw08_VxlanHashes.Pure := by
  intro s _
  refine Ev.rounds ?_
  unfold gangwaylaw08_VxlanHashes.f
  have h1 := mn_le (s.size : Int) 1700
  have h2 := mn_nonneg (size_nat s) (show (0 : Int) ≤ 1700 by decide)
  refine ev_pos h2 (ev_pos h1.1 ?_)
  have hs : (s.extract 0 (mn (s.size : Int) 1700).toNat).size ≤ 1700 := cut_size s 1700
  generalize s.extract 0 (mn (s.size : Int) 1700).toNat = s at *
  refine ev_succ ?_
  simp only [gangwaylaw08_VxlanHashes.j0]
  refine Ev.bind vxlan_fixed_ev (ev_pos rfl ?_)
  refine Ev.bind (hash_ev (by omega)) (Ev.bind (hashR_ev (by omega)) (ev_pos rfl ?_))
  refine Ev.bind (port_ev (by omega)) (Ev.bind (portR_ev (by omega)) (ev_now ?_))
  exact beq_iff_eq.2 rfl
end Go.Proofs.YthgdphfblajijaaDoor.Pure
