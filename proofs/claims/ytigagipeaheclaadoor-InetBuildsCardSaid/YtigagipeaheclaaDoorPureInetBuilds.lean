/- InetBuilds: whether any packet may be, is a part, and its bytes, is as the document says: for every input (of bodies of at most 1700 bytes, as the statement cuts them). -/
import Derived.Test.YtigagipeaheclaaDoorInetRef
import Derived.Test.YtigagipeaheclaaDoorInetPlain
import Derived.OpenShut
import Derived.Test.YtigagipeaheclaaDoorPx19
namespace Go.Proofs.YtigagipeaheclaaDoor.Pure
set_option linter.unusedSimpArgs false
set_option linter.unusedVariables false
open Go Go.RowKit Go.Proofs.YtigagipeaheclaaDoorW.PrintWords Go.Proofs.YtigagipeaheclaaDoorW.PrintLast Go.Proofs.YtigagipeaheclaaDoorW.PrintMore Go.Proofs.YtigagipeaheclaaDoor.L Go.Proofs.YtigagipeaheclaaDoor.P

theorem InetBuilds (tos id : Int) (whole more : Bool) (off ttl proto src dst : Int) (body : ByteArray) (w0 : (Lit.int .i64 tos).wf = true) (w1 : (Lit.int .i64 id).wf = true) (w4 : (Lit.int .i64 off).wf = true) (w5 : (Lit.int .i64 ttl).wf = true) (w6 : (Lit.int .i64 proto).wf = true) (w7 : (Lit.int .u32 src).wf = true) (w8 : (Lit.int .u32 dst).wf = true) (w9 : body.size ≤ maxLen) :
    ∃ k, gangwaylaw06_InetBuilds.f k tos id whole more off ttl proto src dst body = some true := by
  have b7 := bounds_u32 w7
  have b8 := bounds_u32 w8
  obtain ⟨src, rfl⟩ := Int.eq_ofNat_of_zero_le b7.1
  obtain ⟨dst, rfl⟩ := Int.eq_ofNat_of_zero_le b8.1
  refine Ev.rounds ?_
  unfold gangwaylaw06_InetBuilds.f
  obtain ⟨c, e, hc⟩ := icut_some tos id whole more off ttl proto (src : Int) (dst : Int) body
  rw [e]
  refine ev_some ?_
  dsimp only
  refine Ev.bind (ibuild_ev (by omega) (by omega) tos id whole more off ttl proto c) (Ev.bind (ribuild_ev (by omega) (by omega) tos id whole more off ttl proto c) (Ev.bind inet_fixed_ev (ev_pos rfl (ev_pos rfl (ev_pos rfl ?_)))))
  rw [icheck_eq, richeck_eq, ipart_eq]
  refine ev_some (ev_some (ev_pos rfl (ev_some ?_)))
  cases more
  · exact ev_neg (by decide) (ev_now (by simp))
  · exact ev_pos rfl (ev_now rfl)
end Go.Proofs.YtigagipeaheclaaDoor.Pure
