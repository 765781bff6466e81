/- CsumPatch: what any checksum becomes, and what a datagram's goes over, is as the document says: for every input. -/
import Derived.Test.YtgfgebngmjchbaaCsumFix
import Derived.OpenShut
import Derived.Test.YtgfgebngmjchbaaPx10
namespace Go.Proofs.Ytgfgebngmjchbaa.Pure
open Go Go.RowKit Go.Proofs.YtgfgebngmjchbaaW.PrintWords Go.Proofs.YtgfgebngmjchbaaW.PrintLast Go.Proofs.YtgfgebngmjchbaaW.PrintMore Go.Proofs.Ytgfgebngmjchbaa.L Go.Proofs.Ytgfgebngmjchbaa.P

theorem CsumPatch : gangwaylaw03_CsumPatch.Pure := by
  intro a b c _ _ _
  refine Ev.rounds ?_
  unfold gangwaylaw03_CsumPatch.f
  refine Ev.bind csum_fixed_ev (ev_pos rfl ?_)
  refine Ev.bind (patch_f_ev a b c) ?_
  rw [patch_ref]
  refine ev_some (ev_pos rfl ?_)
  have ha := Int.emod_nonneg a (show (4294967296 : Int) ≠ 0 by decide)
  have hb := Int.emod_nonneg b (show (4294967296 : Int) ≠ 0 by decide)
  have ha2 := Int.emod_lt_of_pos a (show (0 : Int) < 4294967296 by decide)
  have hb2 := Int.emod_lt_of_pos b (show (0 : Int) < 4294967296 by decide)
  rw [show a % 4294967296 = (((a % 4294967296).toNat : Nat) : Int) by omega, show b % 4294967296 = (((b % 4294967296).toNat : Nat) : Int) by omega]
  refine Ev.bind (head_f_ev (by omega) (by omega) c b) ?_
  refine Ev.bind (headR_ev (by omega) (by omega) c b) ?_
  exact ev_now (by simp)
end Go.Proofs.Ytgfgebngmjchbaa.Pure
