/- StationTakes: what any frame comes to, for any host, is as the document says: for every input (of bodies of at most 1700 bytes, as the statement cuts them). -/
import Derived.Test.YtbkgaplldfilnaaDoorStationRefsT
import Derived.OpenShut
import Derived.Test.YtbkgaplldfilnaaDoorPx37
namespace Go.Proofs.YtbkgaplldfilnaaDoor.Pure
set_option linter.unusedSimpArgs false
set_option linter.unusedVariables false
open Go Go.RowKit Go.Proofs.YtbkgaplldfilnaaDoorW.PrintWords Go.Proofs.YtbkgaplldfilnaaDoorW.PrintLast Go.Proofs.YtbkgaplldfilnaaDoorW.PrintMore Go.Proofs.YtbkgaplldfilnaaDoor.L Go.Proofs.YtbkgaplldfilnaaDoor.P

theorem StationTakes (mac ip dst src : Int) (has : Bool) (pri : Int) (dei : Bool) (vid ty : Int) (body : ByteArray) (w0 : (Lit.int .u64 mac).wf = true) (w1 : (Lit.int .u32 ip).wf = true) (v0 : (Lit.int .u64 dst).wf = true) (v1 : (Lit.int .u64 src).wf = true) (v3 : (Lit.int .i64 pri).wf = true) (v5 : (Lit.int .i64 vid).wf = true) (v6 : (Lit.int .i64 ty).wf = true) (v7 : body.size ≤ maxLen) :
    ∃ k, gangwaylaw20_StationTakes.f k mac ip dst src has pri dei vid ty body = some true := by
  have b0 := bounds_u64 w0
  have b1 := bounds_u32 w1
  have c0 := bounds_u64 v0
  have c1 := bounds_u64 v1
  obtain ⟨mac, rfl⟩ := Int.eq_ofNat_of_zero_le b0.1
  obtain ⟨ip, rfl⟩ := Int.eq_ofNat_of_zero_le b1.1
  obtain ⟨dst, rfl⟩ := Int.eq_ofNat_of_zero_le c0.1
  obtain ⟨src, rfl⟩ := Int.eq_ofNat_of_zero_le c1.1
  refine Ev.rounds ?_
  unfold gangwaylaw20_StationTakes.f
  refine ev_pos (mn_nonneg (size_nat body) (by decide)) (ev_pos (mn_le (body.size : Int) 1700).1 ?_)
  have hm := cut_size body 1700
  generalize body.extract 0 (mn (body.size : Int) 1700).toNat = s at *
  refine ev_succ ?_
  simp only [gangwaylaw20_StationTakes.j0]
  refine Ev.bind (take_ev (by omega) (by omega) has pri dei vid ty) (Ev.bind (rtake_ev (by omega) (by omega) has pri dei vid ty) (Ev.bind station_fixed_ev (ev_pos rfl ?_)))
  generalize stake mac ip dst src has ty s = q
  exact ev_pos (by simp) (ev_now (by simp))
end Go.Proofs.YtbkgaplldfilnaaDoor.Pure
