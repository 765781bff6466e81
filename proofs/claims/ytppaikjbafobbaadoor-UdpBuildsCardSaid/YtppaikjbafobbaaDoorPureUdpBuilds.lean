/- UdpBuilds: whether any datagram may be, and its bytes between any addresses, is as the document says: for every input (of bodies of at most 1700 bytes, as the statement cuts them). -/
import Derived.Test.YtppaikjbafobbaaDoorUdp
import Derived.OpenShut
import Derived.Test.YtppaikjbafobbaaDoorPx2
import Derived.Test.YtppaikjbafobbaaDoorPx16
namespace Go.Proofs.YtppaikjbafobbaaDoor.Pure
set_option linter.unusedSimpArgs false
set_option linter.unusedVariables false
open Go Go.RowKit Go.Proofs.YtppaikjbafobbaaDoorW.PrintWords Go.Proofs.YtppaikjbafobbaaDoorW.PrintLast Go.Proofs.YtppaikjbafobbaaDoorW.PrintMore Go.Proofs.YtppaikjbafobbaaDoor.L Go.Proofs.YtppaikjbafobbaaDoor.P

theorem cut_some (s d : Int) (n : Bool) (b : ByteArray) : ∃ c : ByteArray, gangwaylaw07_cut.f s d n b = some (s, d, n, c) ∧ c.size ≤ 1700 := by
  have h1 := mn_le (b.size : Int) 1700
  have h2 := mn_nonneg (size_nat b) (show (0 : Int) ≤ 1700 by decide)
  unfold gangwaylaw07_cut.f
  rw [if_pos h2, if_pos h1.1]
  exact ⟨_, rfl, cut_size b 1700⟩
theorem UdpBuilds (a b : Int) (s d : Int) (n : Bool) (body : ByteArray) (wa : (Lit.int .u32 a).wf = true) (wb : (Lit.int .u32 b).wf = true) (ws : (Lit.int .i64 s).wf = true) (wd : (Lit.int .i64 d).wf = true) (hb : body.size ≤ maxLen) :
    ∃ k, gangwaylaw07_UdpBuilds.f k a b s d n body = some true := by
  have ha := bounds_u32 wa
  have hb := bounds_u32 wb
  obtain ⟨a, rfl⟩ := Int.eq_ofNat_of_zero_le ha.1
  obtain ⟨b, rfl⟩ := Int.eq_ofNat_of_zero_le hb.1
  refine Ev.rounds ?_
  unfold gangwaylaw07_UdpBuilds.f
  obtain ⟨c, e, hc⟩ := cut_some s d n body
  rw [e]
  refine ev_some ?_
  dsimp only
  refine Ev.bind (build_ev (by omega) (by omega) s d n c) (Ev.bind (buildR_ev (by omega) (by omega) s d n c) (Ev.bind udp_fixed_ev (ev_pos rfl (ev_pos rfl (ev_pos rfl ?_)))))
  rw [check_eq, checkR_eq]
  refine ev_some (ev_some (ev_now ?_))
  exact beq_iff_eq.2 rfl
end Go.Proofs.YtppaikjbafobbaaDoor.Pure
