/- InetParses: the packet of any bytes, and the bytes when it is older, or what is wrong, is as the document says: for every input (of at most 1700 bytes, as the statement cuts them). -/
import Derived.Test.YtigagipeaheclaaDoorInetRef
import Derived.Test.YtigagipeaheclaaDoorInetPlain
import Derived.OpenShut
import Derived.Test.YtigagipeaheclaaDoorPx24
namespace Go.Proofs.YtigagipeaheclaaDoor.Pure
set_option linter.unusedSimpArgs false
set_option linter.unusedVariables false
open Go Go.RowKit Go.Proofs.YtigagipeaheclaaDoorW.PrintWords Go.Proofs.YtigagipeaheclaaDoorW.PrintLast Go.Proofs.YtigagipeaheclaaDoorW.PrintMore Go.Proofs.YtigagipeaheclaaDoor.L Go.Proofs.YtigagipeaheclaaDoor.P

theorem InetParses (s : ByteArray) (w0 : s.size ≤ 140737488351232) : ∃ k, gangwaylaw06_InetParses.f k s = some true := by
  refine Ev.rounds ?_
  unfold gangwaylaw06_InetParses.f
  refine ev_pos (mn_nonneg (size_nat s) (by decide)) (ev_pos (mn_le (s.size : Int) 1700).1 ?_)
  have hm := cut_size s 1700
  generalize s.extract 0 (mn (s.size : Int) 1700).toNat = s at *
  refine ev_succ ?_
  simp only [gangwaylaw06_InetParses.j0]
  refine Ev.bind (iparse_ev (by omega)) (Ev.bind (riparse_ev (by omega)) (Ev.bind (iolder_ev (by omega)) (Ev.bind (riolder_ev (by omega)) (Ev.bind inet_fixed_ev (ev_pos rfl (ev_pos ?_ (ev_pos rfl (ev_pos rfl (ev_now ?_)))))))))
  · simp
  · simp
end Go.Proofs.YtigagipeaheclaaDoor.Pure
