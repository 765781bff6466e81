/- UdpParses: the datagram of any bytes between any addresses, or what is wrong, is as the document says: for every input (of at most 1700 bytes, as the statement cuts them). -/
import Derived.Test.YtppaikjbafobbaaDoorUdp
import Derived.OpenShut
import Derived.Test.YtppaikjbafobbaaDoorPx19
namespace Go.Proofs.YtppaikjbafobbaaDoor.Pure
set_option linter.unusedSimpArgs false
set_option linter.unusedVariables false
open Go Go.RowKit Go.Proofs.YtppaikjbafobbaaDoorW.PrintWords Go.Proofs.YtppaikjbafobbaaDoorW.PrintLast Go.Proofs.YtppaikjbafobbaaDoorW.PrintMore Go.Proofs.YtppaikjbafobbaaDoor.L Go.Proofs.YtppaikjbafobbaaDoor.P

theorem UdpParses (a b : Int) (s : ByteArray) (wa : (Lit.int .u32 a).wf = true) (wb : (Lit.int .u32 b).wf = true) (hs0 : s.size ≤ 140737488351232) :
    ∃ k, gangwaylaw07_UdpParses.f k a b s = some true := by
  have ha := bounds_u32 wa
  have hb := bounds_u32 wb
  obtain ⟨a, rfl⟩ := Int.eq_ofNat_of_zero_le ha.1
  obtain ⟨b, rfl⟩ := Int.eq_ofNat_of_zero_le hb.1
  refine Ev.rounds ?_
  unfold gangwaylaw07_UdpParses.f
  have h1 := mn_le (s.size : Int) 1700
  have h2 := mn_nonneg (size_nat s) (show (0 : Int) ≤ 1700 by decide)
  refine ev_pos h2 (ev_pos h1.1 ?_)
  have hs : (s.extract 0 (mn (s.size : Int) 1700).toNat).size ≤ 1700 := cut_size s 1700
  generalize s.extract 0 (mn (s.size : Int) 1700).toNat = s at *
  refine ev_succ ?_
  simp only [gangwaylaw07_UdpParses.j0]
  refine Ev.bind (parse_ev (by omega) (by omega) (by omega)) (Ev.bind (parseR_ev (by omega) (by omega) (by omega)) (Ev.bind udp_fixed_ev (ev_pos rfl (ev_pos ?_ (ev_now ?_)))))
  · simp
  · exact beq_iff_eq.2 rfl
end Go.Proofs.YtppaikjbafobbaaDoor.Pure
