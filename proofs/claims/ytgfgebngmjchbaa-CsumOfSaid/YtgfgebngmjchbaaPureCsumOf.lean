/- CsumOf: the checksum of any parts, and whether any are right, is as the document says, as of one text: for every input (of at most 600 bytes each, as the statement cuts them). -/
import Derived.Test.YtgfgebngmjchbaaCsumFix
import Derived.Test.YtgfgebngmjchbaaPx1
import Derived.Test.YtgfgebngmjchbaaPx8
namespace Go.Proofs.Ytgfgebngmjchbaa.Pure
set_option linter.unusedSimpArgs false
set_option linter.unusedVariables false
open Go Go.RowKit Go.Proofs.YtgfgebngmjchbaaW.PrintWords Go.Proofs.YtgfgebngmjchbaaW.PrintLast Go.Proofs.YtgfgebngmjchbaaW.PrintMore Go.Proofs.Ytgfgebngmjchbaa.L Go.Proofs.Ytgfgebngmjchbaa.P

theorem cut_some (a b c : ByteArray) : ∃ x y z : ByteArray, gangwaylaw03_cut.f a b c = some (x, y, z) ∧ x.size ≤ 600 ∧ y.size ≤ 600 ∧ z.size ≤ 600 := by
  have h1 := mn_le (a.size : Int) 600
  have h2 := mn_nonneg (size_nat a) (show (0 : Int) ≤ 600 by decide)
  have h3 := mn_le (b.size : Int) 600
  have h4 := mn_nonneg (size_nat b) (show (0 : Int) ≤ 600 by decide)
  have h5 := mn_le (c.size : Int) 600
  have h6 := mn_nonneg (size_nat c) (show (0 : Int) ≤ 600 by decide)
  unfold gangwaylaw03_cut.f
  rw [if_pos h2, if_pos h1.1, if_pos h4, if_pos h3.1, if_pos h6, if_pos h5.1]
  exact ⟨_, _, _, rfl, cut_size a 600, cut_size b 600, cut_size c 600⟩
theorem CsumOf (a b c : ByteArray) (_ : a.size ≤ maxLen) (_ : b.size ≤ maxLen) (_ : c.size ≤ maxLen) : ∃ k, gangwaylaw03_CsumOf.f k a b c = some true := by
  refine Ev.rounds ?_
  unfold gangwaylaw03_CsumOf.f
  obtain ⟨x, y, z, e, hx, hy, hz⟩ := cut_some a b c
  rw [e]
  refine ev_some (ev_pos ?_ (ev_pos ?_ ?_))
  · show x.size + y.size ≤ _
    omega
  · show (x ++ y).size + z.size ≤ _
    rw [ByteArray.size_append]
    omega
  dsimp only
  have hs : (x ++ y ++ z).size = x.size + y.size + z.size := by rw [ByteArray.size_append, ByteArray.size_append]
  have c3 : cat [x, y, z] = nb (x ++ y ++ z) := by rw [cat_three, nb_append, nb_append, List.append_assoc]
  have l3 : (cat [x, y, z]).length ≤ 1099511627775 := by rw [c3, nb_len]; omega
  have l1 : (cat [x ++ y ++ z]).length ≤ 1099511627775 := by rw [cat_one, nb_len]; omega
  refine Ev.bind csum_fixed_ev (ev_pos rfl ?_)
  refine Ev.bind (of_f_ev (by simp) l3) (Ev.bind (of_ref_ev (by omega)) (ev_pos (by rw [c3]) ?_))
  refine Ev.bind (of_f_ev (by simp) l1) (Ev.bind (of_ref_ev (by omega)) (ev_pos (by rw [cat_one]) ?_))
  refine Ev.bind (right_f_ev (by simp) l3) (Ev.bind (of_ref_ev (by omega)) (ev_now ?_))
  rw [c3]
  have hf := foldN_le (wsum (nb (x ++ y ++ z)))
  unfold csumN
  generalize foldN (wsum (nb (x ++ y ++ z))) = n at *
  by_cases h : n = 65535
  · subst h
    rfl
  · rw [decide_eq_false h]
    have e : (((65535 - n : Nat) : Int) == 0) = false := by
      rw [beq_eq_false_iff_ne]
      omega
    rw [e]
    rfl
end Go.Proofs.Ytgfgebngmjchbaa.Pure
