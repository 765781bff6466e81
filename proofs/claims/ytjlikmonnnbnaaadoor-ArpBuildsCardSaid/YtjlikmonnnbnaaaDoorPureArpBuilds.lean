/- ArpBuilds: whether any message may be, its bytes, and any bytes' message, is as the document says: for every input (of at most 100 bytes, as the statement cuts them). -/
import Derived.Test.YtjlikmonnnbnaaaDoorArp
import Derived.OpenShut
import Derived.Test.YtjlikmonnnbnaaaDoorPx17
namespace Go.Proofs.YtjlikmonnnbnaaaDoor.Pure
set_option linter.unusedSimpArgs false
set_option linter.unusedVariables false
open Go Go.RowKit Go.Proofs.YtjlikmonnnbnaaaDoorW.PrintWords Go.Proofs.YtjlikmonnnbnaaaDoorW.PrintLast Go.Proofs.YtjlikmonnnbnaaaDoorW.PrintMore Go.Proofs.YtjlikmonnnbnaaaDoor.L Go.Proofs.YtjlikmonnnbnaaaDoor.P

theorem ArpBuilds (op sm si tm ti : Int) (s : ByteArray) (w0 : (Lit.int .i64 op).wf = true) (w1 : (Lit.int .u64 sm).wf = true) (w2 : (Lit.int .u32 si).wf = true) (w3 : (Lit.int .u64 tm).wf = true) (w4 : (Lit.int .u32 ti).wf = true) (hs : s.size ≤ 140737488351232) :
    ∃ k, gangwaylaw05_ArpBuilds.f k op sm si tm ti s = some true := by
  have b1 := bounds_u64 w1
  have b2 := bounds_u32 w2
  have b3 := bounds_u64 w3
  have b4 := bounds_u32 w4
  obtain ⟨sm, rfl⟩ := Int.eq_ofNat_of_zero_le b1.1
  obtain ⟨si, rfl⟩ := Int.eq_ofNat_of_zero_le b2.1
  obtain ⟨tm, rfl⟩ := Int.eq_ofNat_of_zero_le b3.1
  obtain ⟨ti, rfl⟩ := Int.eq_ofNat_of_zero_le b4.1
  refine Ev.rounds ?_
  unfold gangwaylaw05_ArpBuilds.f
  have h1 := mn_le (s.size : Int) 100
  have h2 := mn_nonneg (size_nat s) (show (0 : Int) ≤ 100 by decide)
  refine ev_pos h2 (ev_pos h1.1 ?_)
  have hm := cut_size s 100
  generalize s.extract 0 (mn (s.size : Int) 100).toNat = s at *
  refine ev_succ ?_
  simp only [gangwaylaw05_ArpBuilds.j0]
  refine Ev.bind (abuild_ev (by omega) (by omega) (by omega)) (Ev.bind (rabuild_ev (by omega) (by omega) (by omega)) ?_)
  refine Ev.bind (aparse_ev (by omega)) (Ev.bind (raparse_ev (by omega)) (Ev.bind arp_fixed_ev ?_))
  refine ev_pos rfl (ev_pos rfl (ev_pos rfl ?_))
  rw [acheck_eq _ _ (by omega), racheck_eq _ _ (by omega)]
  exact ev_some (ev_some (ev_pos rfl (ev_pos (by simp) (ev_now (by simp)))))
end Go.Proofs.YtjlikmonnnbnaaaDoor.Pure
