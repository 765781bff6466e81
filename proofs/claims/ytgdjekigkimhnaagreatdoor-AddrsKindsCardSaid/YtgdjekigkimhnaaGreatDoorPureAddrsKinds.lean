/- AddrsKinds: whose any address is, what any net is, and what is in it, is as the document says: for every input. -/
import Derived.Test.YtgdjekigkimhnaaGreatDoorAddrsPlain
import Derived.Test.YtgdjekigkimhnaaGreatDoorAddrsNetRef
import Derived.OpenShut
import Derived.Test.YtgdjekigkimhnaaGreatDoorPx30
namespace Go.Proofs.YtgdjekigkimhnaaGreatDoor.Pure
set_option linter.unusedSimpArgs false
set_option linter.unusedVariables false
open Go Go.RowKit Go.Proofs.YtgdjekigkimhnaaGreatDoorW.PrintWords Go.Proofs.YtgdjekigkimhnaaGreatDoorW.PrintLast Go.Proofs.YtgdjekigkimhnaaGreatDoorW.PrintMore Go.Proofs.YtgdjekigkimhnaaGreatDoor.L Go.Proofs.YtgdjekigkimhnaaGreatDoor.P

theorem AddrsKinds (m a p b q c : Int) (w0 : (Lit.int .u64 m).wf = true) (w1 : (Lit.int .u32 a).wf = true) (w2 : (Lit.int .u32 p).wf = true) (w3 : (Lit.int .i64 b).wf = true) (w4 : (Lit.int .u32 q).wf = true) (w5 : (Lit.int .i64 c).wf = true) : ∃ k, gangwaylaw02_AddrsKinds.f k m a p b q c = some true := by
  have hm := bounds_u64 w0
  have ha := bounds_u32 w1
  have hp := bounds_u32 w2
  have hq := bounds_u32 w4
  obtain ⟨m, rfl⟩ := Int.eq_ofNat_of_zero_le hm.1
  obtain ⟨a, rfl⟩ := Int.eq_ofNat_of_zero_le ha.1
  obtain ⟨p, rfl⟩ := Int.eq_ofNat_of_zero_le hp.1
  obtain ⟨q, rfl⟩ := Int.eq_ofNat_of_zero_le hq.1
  have hm1 : m < 18446744073709551616 := by omega
  have ha1 : a < 4294967296 := by omega
  have hp1 : p < 4294967296 := by omega
  have hq1 : q < 4294967296 := by omega
  refine Ev.rounds ?_
  unfold gangwaylaw02_AddrsKinds.f
  refine Ev.bind fixed_ev (ev_pos rfl (Ev.bind (ev_known (group_eq hm1)) (Ev.bind (ev_known (rgroup_eq hm1)) (ev_pos (by simp) (Ev.bind (ev_known (own_eq hm1)) (Ev.bind (ev_known (rown_eq hm1)) (ev_pos (by simp) ?_)))))))
  refine Ev.bind (net_ev hp1 b) (Ev.bind (rnet_ev hp1 b) (ev_pos (by simp) (Ev.bind (in_ev hp1 b ha1) (Ev.bind (rin_ev hp1 b ha1) (ev_pos (by simp) ?_)))))
  refine Ev.bind (last_ev hp1 b) (Ev.bind (rlast_ev hp1 b) (ev_pos rfl (Ev.bind (near_ev hp1 b hq1 c) (Ev.bind (rnear_ev hp1 b hq1 c) (ev_now ?_)))))
  simp
end Go.Proofs.YtgdjekigkimhnaaGreatDoor.Pure
