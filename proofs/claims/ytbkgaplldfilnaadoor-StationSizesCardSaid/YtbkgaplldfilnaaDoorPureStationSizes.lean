/- StationSizes: a packet is 28 bytes longer than its datagram's body; no longer than may be, and one byte less is too little: for every input (of bodies of at most 1700 bytes, as the statement cuts them). -/
import Derived.Test.YtbkgaplldfilnaaDoorStationPlain
import Derived.OpenShut
import Derived.Test.YtbkgaplldfilnaaDoorPx47
namespace Go.Proofs.YtbkgaplldfilnaaDoor.Pure
set_option linter.unusedSimpArgs false
set_option linter.unusedVariables false
open Go Go.RowKit Go.Proofs.YtbkgaplldfilnaaDoorW.PrintWords Go.Proofs.YtbkgaplldfilnaaDoorW.PrintLast Go.Proofs.YtbkgaplldfilnaaDoorW.PrintMore Go.Proofs.YtbkgaplldfilnaaDoor.L Go.Proofs.YtbkgaplldfilnaaDoor.P

theorem StationSizes (a b id most us ud : Int) (nosum : Bool) (body : ByteArray) (w0 : (Lit.int .u32 a).wf = true) (w1 : (Lit.int .u32 b).wf = true) (w2 : (Lit.int .i64 id).wf = true) (w3 : (Lit.int .i64 most).wf = true) (v0 : (Lit.int .i64 us).wf = true) (v1 : (Lit.int .i64 ud).wf = true) (v3 : body.size ≤ maxLen) :
    ∃ k, gangwaylaw20_StationSizes.f k a b id most us ud nosum body = some true := by
  have b0 := bounds_u32 w0
  have b1 := bounds_u32 w1
  obtain ⟨a, rfl⟩ := Int.eq_ofNat_of_zero_le b0.1
  obtain ⟨b, rfl⟩ := Int.eq_ofNat_of_zero_le b1.1
  refine Ev.rounds ?_
  unfold gangwaylaw20_StationSizes.f
  refine ev_pos (mn_nonneg (size_nat body) (by decide)) (ev_pos (mn_le (body.size : Int) 1700).1 ?_)
  have hm := cut_size body 1700
  generalize body.extract 0 (mn (body.size : Int) 1700).toNat = s at *
  refine ev_succ ?_
  simp only [gangwaylaw20_StationSizes.j0]
  rw [show wrap64 (28 + (s.size : Int)) = 28 + (s.size : Int) from w64 (by omega) (by omega), show wrap64 (28 + (s.size : Int) - 1) = 28 + (s.size : Int) - 1 from w64 (by omega) (by omega)]
  refine Ev.bind (make_ev (by omega) (by omega) us ud nosum s id (28 + (s.size : Int))) (Ev.bind (make_ev (by omega) (by omega) us ud nosum s id (28 + (s.size : Int) - 1)) (ev_succ ?_))
  simp only [gangwaylaw20_StationSizes.j1]
  by_cases hok : uok us ud s = true
  · rw [smake_ok hok (by omega), smake_long hok (by omega)]
    have hz := spkt_size a b us ud nosum s id
    refine ev_pos rfl (ev_pos ?_ (ev_pos rfl (ev_pos (by decide +kernel) (Ev.bind station_fixed_ev (ev_now rfl)))))
    show ((spkt a b us ud nosum s id).size : Int) = _
    rw [hz]
    omega
  · rw [smake_none hok, smake_none hok]
    exact ev_neg (by decide) (ev_pos (by decide +kernel) (ev_pos (by decide +kernel) (ev_pos rfl (Ev.bind station_fixed_ev (ev_now rfl)))))
end Go.Proofs.YtbkgaplldfilnaaDoor.Pure
