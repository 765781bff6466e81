/- CsumPseudo: what a datagram's checksum goes over, too, has twelve bytes; from and to the other way round its checksum is the same: for every input (of at most 600 bytes, as the statement cuts them). -/
import Derived.Test.YtgfgebngmjchbaaCsumFix
import Derived.OpenShut
import Derived.Test.YtgfgebngmjchbaaPx15
namespace Go.Proofs.Ytgfgebngmjchbaa.Pure
set_option linter.unusedSimpArgs false
set_option linter.unusedVariables false
open Go Go.RowKit Go.Proofs.YtgfgebngmjchbaaW.PrintWords Go.Proofs.YtgfgebngmjchbaaW.PrintLast Go.Proofs.YtgfgebngmjchbaaW.PrintMore Go.Proofs.Ytgfgebngmjchbaa.L Go.Proofs.Ytgfgebngmjchbaa.P

theorem CsumPseudo : gangwaylaw03_CsumPseudo.Pure := by
  intro a b s wa wb _
  have ha := bounds_u32 wa
  have hb := bounds_u32 wb
  obtain ⟨a, rfl⟩ := Int.eq_ofNat_of_zero_le ha.1
  obtain ⟨b, rfl⟩ := Int.eq_ofNat_of_zero_le hb.1
  refine Ev.rounds ?_
  unfold gangwaylaw03_CsumPseudo.f
  have h1 := mn_le (s.size : Int) 600
  have h2 := mn_nonneg (size_nat s) (show (0 : Int) ≤ 600 by decide)
  refine ev_pos h2 (ev_pos h1.1 ?_)
  have hs := cut_size s 600
  generalize s.extract 0 (mn (s.size : Int) 600).toNat = s at *
  have hl := nb_len s
  refine ev_succ ?_
  simp only [gangwaylaw03_CsumPseudo.j0]
  refine Ev.bind (head_f_ev (by omega) (by omega) 17 _) (Ev.bind (head_f_ev (by omega) (by omega) 17 _) ?_)
  have l1 := headL_len a b 17 (s.size : Int)
  have l2 := headL_len b a 17 (s.size : Int)
  have s1 : (bs (headL a b 17 (s.size : Int))).size = 12 := by rw [bs_size, l1]
  have s2 : (bs (headL b a 17 (s.size : Int))).size = 12 := by rw [bs_size, l2]
  refine ev_pos (by rw [s1]; rfl) (ev_pos (by decide) (ev_pos (by rw [s1]; decide) ?_))
  rw [u64w (x := (a : Int)) (by omega) (by omega)]
  refine Ev.bind (bytes_ev (n := 4) (by decide) (by omega)) ?_
  have t1 : (bs (headL a b 17 (s.size : Int))).extract 0 4 = bs (be 4 a) := by
    rw [bs_extract, List.drop_zero]
    unfold headL
    simp [be_len, List.take_append]
  have t2 : (bs (headL a b 17 (s.size : Int))).extract 4 8 = bs (be 4 b) := by
    rw [bs_extract]
    unfold headL
    simp [be_len, List.take_append, List.drop_append, List.take_of_length_le, List.drop_eq_nil_of_le]
  have t3 : (bs (headL b a 17 (s.size : Int))).extract 0 4 = bs (be 4 b) := by
    rw [bs_extract, List.drop_zero]
    unfold headL
    simp [be_len, List.take_append]
  refine ev_pos (by rw [t1]) (ev_pos (by decide) (ev_pos (by rw [s1]; decide) (ev_pos (by rw [s2]; decide) (ev_pos (by rw [t2, t3]) ?_))))
  have c1 : cat [bs (headL a b 17 (s.size : Int)), s] = headL a b 17 (s.size : Int) ++ nb s := by rw [cat_two, nb_bs (headL_byt _ _ _ _)]
  have c2 : cat [bs (headL b a 17 (s.size : Int)), s] = headL b a 17 (s.size : Int) ++ nb s := by rw [cat_two, nb_bs (headL_byt _ _ _ _)]
  refine Ev.bind (of_f_ev (by simp) (by rw [c1, List.length_append, l1]; omega)) (Ev.bind (of_f_ev (by simp) (by rw [c2, List.length_append, l2]; omega)) (ev_pos ?_ ?_))
  · rw [c1, c2]
    unfold csumN
    have e : wsum (headL a b 17 (s.size : Int)) = wsum (headL b a 17 (s.size : Int)) := by
      unfold headL
      simp only [List.append_assoc]
      have q1 : (be 4 a).length % 2 = 0 := by rw [be_len]
      have q2 : (be 4 b).length % 2 = 0 := by rw [be_len]
      rw [wsum_append _ q1, wsum_append _ q2, wsum_append _ q2, wsum_append _ q1]
      omega
    rw [wsum_append _ (by rw [l1]), wsum_append _ (by rw [l2]), e]
  · exact Ev.bind csum_fixed_ev (ev_now rfl)
end Go.Proofs.Ytgfgebngmjchbaa.Pure
