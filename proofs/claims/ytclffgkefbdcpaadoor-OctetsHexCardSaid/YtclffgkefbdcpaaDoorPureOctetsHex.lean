/- OctetsHex: any bytes as digits, and any text as bytes, is as the document says: for every input (of at most 1000 bytes, as the statement cuts them). -/
import Derived.Test.YtclffgkefbdcpaaDoorOctetsRef
import Derived.OpenShut
import Derived.Test.YtclffgkefbdcpaaDoorPx12
namespace Go.Proofs.YtclffgkefbdcpaaDoor.Pure
set_option linter.unusedSimpArgs false
set_option linter.unusedVariables false
open Go Go.RowKit Go.Proofs.YtclffgkefbdcpaaDoorW.PrintWords Go.Proofs.YtclffgkefbdcpaaDoorW.PrintLast Go.Proofs.YtclffgkefbdcpaaDoorW.PrintMore Go.Proofs.YtclffgkefbdcpaaDoor.L Go.Proofs.YtclffgkefbdcpaaDoor.P

theorem OctetsHex (s t : ByteArray) (hs : s.size ≤ 140737488351232) (ht : t.size ≤ 140737488351232) : ∃ k, gangwaylaw01_OctetsHex.f k s t = some true := by
  refine Ev.rounds ?_
  unfold gangwaylaw01_OctetsHex.f
  refine ev_pos (mn_nonneg (size_nat s) (by decide)) (ev_pos (mn_le (s.size : Int) 1000).1 ?_)
  have hm := cut_size s 1000
  generalize s.extract 0 (mn (s.size : Int) 1000).toNat = s at *
  refine ev_succ ?_
  simp only [gangwaylaw01_OctetsHex.j0]
  refine ev_pos (mn_nonneg (size_nat t) (by decide)) (ev_pos (mn_le (t.size : Int) 1000).1 ?_)
  have hn := cut_size t 1000
  generalize t.extract 0 (mn (t.size : Int) 1000).toNat = t at *
  refine ev_succ ?_
  simp only [gangwaylaw01_OctetsHex.j1]
  rw [unhex_eq (by omega)]
  refine ev_some (Ev.bind (runhex_ev (by omega)) (Ev.bind octets_fixed_ev (ev_pos rfl ?_)))
  rw [hex_eq (by omega)]
  refine ev_some (Ev.bind (rhex_ev (by omega)) (ev_pos rfl (ev_pos rfl (ev_now ?_))))
  simp
end Go.Proofs.YtclffgkefbdcpaaDoor.Pure
