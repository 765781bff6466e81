/- BpduBuilds: whether any message may be, and its bytes, is as the document says: for every input. -/
import Derived.Test.YtbfjlhjfpmgplaaDoorBpduRefB
import Derived.OpenShut
import Derived.Test.YtbfjlhjfpmgplaaDoorPx19
namespace Go.Proofs.YtbfjlhjfpmgplaaDoor.Pure
set_option linter.unusedSimpArgs false
set_option linter.unusedVariables false
open Go Go.RowKit Go.Proofs.YtbfjlhjfpmgplaaDoorW.PrintWords Go.Proofs.YtbfjlhjfpmgplaaDoorW.PrintLast Go.Proofs.YtbfjlhjfpmgplaaDoorW.PrintMore Go.Proofs.YtbfjlhjfpmgplaaDoor.L Go.Proofs.YtbfjlhjfpmgplaaDoor.P

theorem BpduBuilds (kind : Int) (ch pr le fo ag ac : Bool) (role root cost bridge port age mage hello delay : Int) (w0 : (Lit.int .i64 kind).wf = true) (w7 : (Lit.int .i64 role).wf = true) (w8 : (Lit.int .u64 root).wf = true) (w9 : (Lit.int .i64 cost).wf = true) (w10 : (Lit.int .u64 bridge).wf = true) (w11 : (Lit.int .i64 port).wf = true) (w12 : (Lit.int .i64 age).wf = true) (w13 : (Lit.int .i64 mage).wf = true) (w14 : (Lit.int .i64 hello).wf = true) (w15 : (Lit.int .i64 delay).wf = true) :
    ∃ k, gangwaylaw09_BpduBuilds.f k kind ch pr le fo ag ac role root cost bridge port age mage hello delay = some true := by
  have b8 := bounds_u64 w8
  have b10 := bounds_u64 w10
  obtain ⟨root, rfl⟩ := Int.eq_ofNat_of_zero_le b8.1
  obtain ⟨bridge, rfl⟩ := Int.eq_ofNat_of_zero_le b10.1
  refine Ev.rounds ?_
  unfold gangwaylaw09_BpduBuilds.f
  have h1 : root < 18446744073709551616 := by omega
  have h2 : bridge < 18446744073709551616 := by omega
  refine Ev.bind (build_ev (m := ⟨kind, ch, pr, le, fo, ag, ac, role, root, cost, bridge, port, age, mage, hello, delay⟩) h1 h2) ?_
  refine Ev.bind (rbuild_ev (m := ⟨kind, ch, pr, le, fo, ag, ac, role, root, cost, bridge, port, age, mage, hello, delay⟩) h1 h2) ?_
  refine Ev.bind bpdu_fixed_ev (ev_pos rfl (ev_pos rfl (ev_pos rfl ?_)))
  refine Ev.bind (check_ev ⟨kind, ch, pr, le, fo, ag, ac, role, root, cost, bridge, port, age, mage, hello, delay⟩) ?_
  refine Ev.bind (rcheck_ev ⟨kind, ch, pr, le, fo, ag, ac, role, root, cost, bridge, port, age, mage, hello, delay⟩) ?_
  exact ev_now (by simp)
end Go.Proofs.YtbfjlhjfpmgplaaDoor.Pure
