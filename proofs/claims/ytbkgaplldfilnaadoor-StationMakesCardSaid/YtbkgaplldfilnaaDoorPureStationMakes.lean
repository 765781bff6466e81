/- StationMakes: the packet of any datagram, from and to any address, or that it does not go, is as the document says: for every input (of bodies of at most 1700 bytes, as the statement cuts them). -/
import Derived.Test.YtbkgaplldfilnaaDoorStationRefsM
import Derived.OpenShut
import Derived.Test.YtbkgaplldfilnaaDoorPx43
namespace Go.Proofs.YtbkgaplldfilnaaDoor.Pure
set_option linter.unusedSimpArgs false
set_option linter.unusedVariables false
open Go Go.RowKit Go.Proofs.YtbkgaplldfilnaaDoorW.PrintWords Go.Proofs.YtbkgaplldfilnaaDoorW.PrintLast Go.Proofs.YtbkgaplldfilnaaDoorW.PrintMore Go.Proofs.YtbkgaplldfilnaaDoor.L Go.Proofs.YtbkgaplldfilnaaDoor.P

theorem StationMakes (a b id most us ud : Int) (nosum : Bool) (body : ByteArray) (w0 : (Lit.int .u32 a).wf = true) (w1 : (Lit.int .u32 b).wf = true) (w2 : (Lit.int .i64 id).wf = true) (w3 : (Lit.int .i64 most).wf = true) (v0 : (Lit.int .i64 us).wf = true) (v1 : (Lit.int .i64 ud).wf = true) (v3 : body.size ≤ maxLen) :
    ∃ k, gangwaylaw20_StationMakes.f k a b id most us ud nosum body = some true := by
  have b0 := bounds_u32 w0
  have b1 := bounds_u32 w1
  obtain ⟨a, rfl⟩ := Int.eq_ofNat_of_zero_le b0.1
  obtain ⟨b, rfl⟩ := Int.eq_ofNat_of_zero_le b1.1
  refine Ev.rounds ?_
  unfold gangwaylaw20_StationMakes.f
  refine ev_pos (mn_nonneg (size_nat body) (by decide)) (ev_pos (mn_le (body.size : Int) 1700).1 ?_)
  generalize body.extract 0 (mn (body.size : Int) 1700).toNat = s at *
  refine ev_succ ?_
  simp only [gangwaylaw20_StationMakes.j0]
  refine Ev.bind (make_ev (by omega) (by omega) us ud nosum s id most) (Ev.bind (rmake_ev (by omega) (by omega) us ud nosum s id most) (Ev.bind station_fixed_ev (ev_pos rfl ?_)))
  exact ev_pos rfl (ev_now (by simp))
end Go.Proofs.YtbkgaplldfilnaaDoor.Pure
