/- BpduParses: the message of any bytes, or what is wrong, is as the document says: for every input (of at most 200 bytes, as the statement cuts them). -/
import Derived.Test.YtbfjlhjfpmgplaaDoorBpduRefP
import Derived.OpenShut
import Derived.Test.YtbfjlhjfpmgplaaDoorPx22
namespace Go.Proofs.YtbfjlhjfpmgplaaDoor.Pure
set_option linter.unusedSimpArgs false
set_option linter.unusedVariables false
open Go Go.RowKit Go.Proofs.YtbfjlhjfpmgplaaDoorW.PrintWords Go.Proofs.YtbfjlhjfpmgplaaDoorW.PrintLast Go.Proofs.YtbfjlhjfpmgplaaDoorW.PrintMore Go.Proofs.YtbfjlhjfpmgplaaDoor.L Go.Proofs.YtbfjlhjfpmgplaaDoor.P

theorem BpduParses (s : ByteArray) (w0 : s.size ≤ 140737488351232) : ∃ k, gangwaylaw09_BpduParses.f k s = some true := by
  refine Ev.rounds ?_
  unfold gangwaylaw09_BpduParses.f
  refine ev_pos (mn_nonneg (size_nat s) (by decide)) (ev_pos (mn_le (s.size : Int) 200).1 ?_)
  have hm := cut_size s 200
  generalize s.extract 0 (mn (s.size : Int) 200).toNat = t at *
  refine ev_succ ?_
  simp only [gangwaylaw09_BpduParses.j0]
  refine Ev.bind (parse_ev (by omega)) (Ev.bind (rparse_ev (by omega)) (Ev.bind bpdu_fixed_ev (ev_pos rfl ?_)))
  generalize (bparse (nb t)).1 = m
  generalize (bparse (nb t)).2 = e
  exact ev_pos (by simp [mtup]) (ev_now (by simp [mtup]))
end Go.Proofs.YtbfjlhjfpmgplaaDoor.Pure
