/- VxlanBack: what is built is parsed as it was; what is parsed, built, is the bytes but for those of the head that make no difference: for every input (of at most 1700 bytes, as the statement cuts them). -/
import Derived.Test.YthgdphfblajijaaDoorVxlan
import Derived.Test.YthgdphfblajijaaDoorPx11
namespace Go.Proofs.YthgdphfblajijaaDoor.Pure
set_option linter.unusedSimpArgs false
set_option linter.unusedVariables false
open Go Go.RowKit Go.Proofs.YthgdphfblajijaaDoorW.PrintWords Go.Proofs.YthgdphfblajijaaDoorW.PrintLast Go.Proofs.YthgdphfblajijaaDoorW.PrintMore Go.Proofs.YthgdphfblajijaaDoor.L Go.Proofs.YthgdphfblajijaaDoor.P

theorem head_byt (n : Nat) : Byt ([8, 0, 0, 0] ++ be 3 n ++ [0]) := ((Byt.cons (by decide) (Byt.cons (by decide) (Byt.cons (by decide) (Byt.cons (by decide) Byt.nil)))).append (be_byt _ _)).append (Byt.cons (by decide) Byt.nil)
theorem head_len (n : Nat) : ([8, 0, 0, 0] ++ be 3 n ++ [0]).length = 8 := by simp [be_len]
theorem built_size (n : Nat) (s : ByteArray) : (bs ([8, 0, 0, 0] ++ be 3 n ++ [0]) ++ s).size = s.size + 8 := by
  rw [ByteArray.size_append, bs_size, head_len]
  omega
theorem built_nb (n : Nat) (s : ByteArray) : nb (bs ([8, 0, 0, 0] ++ be 3 n ++ [0]) ++ s) = ([8, 0, 0, 0] ++ be 3 n ++ [0]) ++ nb s := by rw [nb_append, nb_bs (head_byt n)]
theorem built_body (n : Nat) (s : ByteArray) : (bs ([8, 0, 0, 0] ++ be 3 n ++ [0]) ++ s).extract 8 (bs ([8, 0, 0, 0] ++ be 3 n ++ [0]) ++ s).size = s := by
  apply nb_inj
  rw [nb_extract, List.take_of_length_le (by rw [nb_len]; exact Nat.le_refl _), built_nb, List.drop_append_of_le_length (by rw [head_len]; exact Nat.le_refl _), List.drop_of_length_le (by rw [head_len]; exact Nat.le_refl _)]
  rfl
theorem parse_built {n : Nat} (hn : n < 16777216) (s : ByteArray) : vparse (bs ([8, 0, 0, 0] ++ be 3 n ++ [0]) ++ s) = ((n : Int), s, 0) := by
  unfold vparse
  rw [if_neg (by rw [built_size]; omega)]
  have e0 : (nb (bs ([8, 0, 0, 0] ++ be 3 n ++ [0]) ++ s)).getD 0 0 = 8 := by rw [built_nb]; rfl
  have e1 : numAt (nb (bs ([8, 0, 0, 0] ++ be 3 n ++ [0]) ++ s)) 4 3 = n := by
    unfold numAt
    rw [built_nb]
    have : (([8, 0, 0, 0] ++ be 3 n ++ [0] ++ nb s).drop 4).take 3 = be 3 n := by
      rw [List.append_assoc, List.append_assoc, List.drop_append_of_le_length (by decide)]
      show (be 3 n ++ _).take 3 = _
      rw [List.take_append_of_le_length (by rw [be_len]; exact Nat.le_refl _), List.take_of_length_le (by rw [be_len]; exact Nat.le_refl _)]
    rw [this, num_be]
    exact Nat.mod_eq_of_lt hn
  rw [e0, if_neg (by decide), e1, built_body]
theorem back_j2 {s : ByteArray} (hs : s.size ≤ 1700) : Ev (fun k => gangwaylaw08_VxlanBack.j2 k s false) true := by
  have hby := nb_byt s
  have hl := nb_len s
  have hn := numAt_lt hby 4 3
  have h3 : (256 : Nat) ^ 3 = 16777216 := by decide
  refine ev_succ ?_
  simp only [gangwaylaw08_VxlanBack.j2, Bool.false_eq_true, if_false]
  refine Ev.bind (parse_ev (by omega)) ?_
  unfold vparse
  by_cases h0 : s.size < 8
  · rw [if_pos h0]
    refine ev_neg (by decide) (ev_pos rfl (ev_pos (by decide +kernel) ?_))
    exact Ev.bind vxlan_fixed_ev (ev_now rfl)
  · rw [if_neg h0]
    by_cases hz : (nb s).getD 0 0 / 8 % 2 = 0
    · rw [if_pos hz]
      refine ev_neg (by decide) (ev_pos rfl (ev_pos (by decide +kernel) ?_))
      exact Ev.bind vxlan_fixed_ev (ev_now rfl)
    · rw [if_neg hz]
      refine ev_pos rfl ?_
      dsimp only
      refine Ev.bind (build_ev (by rw [ByteArray.size_extract]; omega)) ?_
      unfold vbuild
      rw [if_pos (by omega), Int.toNat_natCast]
      dsimp only
      have hu : (s.extract 8 s.size).size = s.size - 8 := by rw [ByteArray.size_extract]; omega
      have hz2 := built_size (numAt (nb s) 4 3) (s.extract 8 s.size)
      have e1 : (bs ([8, 0, 0, 0] ++ be 3 (numAt (nb s) 4 3) ++ [0]) ++ s.extract 8 s.size).extract 4 7 = s.extract 4 7 := by
        apply nb_inj
        have hL : nb ((bs ([8, 0, 0, 0] ++ be 3 (numAt (nb s) 4 3) ++ [0]) ++ s.extract 8 s.size).extract 4 7) = (([8, 0, 0, 0] ++ be 3 (numAt (nb s) 4 3) ++ [0] ++ nb (s.extract 8 s.size)).drop 4).take 3 := by
          rw [nb_extract, built_nb, List.drop_take]
        have hR : nb (s.extract 4 7) = ((nb s).drop 4).take 3 := by rw [nb_extract, List.drop_take]
        rw [hL, hR]
        have : (([8, 0, 0, 0] ++ be 3 (numAt (nb s) 4 3) ++ [0] ++ nb (s.extract 8 s.size)).drop 4).take 3 = be 3 (numAt (nb s) 4 3) := by
          rw [List.append_assoc, List.append_assoc, List.drop_append_of_le_length (by decide)]
          show (be 3 _ ++ _).take 3 = _
          rw [List.take_append_of_le_length (by rw [be_len]; exact Nat.le_refl _), List.take_of_length_le (by rw [be_len]; exact Nat.le_refl _)]
        rw [this]
        unfold numAt
        have hlen : ((List.drop 4 (nb s)).take 3).length = 3 := by rw [List.length_take, List.length_drop]; omega
        have := be_num ((List.drop 4 (nb s)).take 3) ((hby.drop 4).take 3)
        rw [hlen] at this
        exact this
      refine ev_pos rfl (ev_pos (by omega) (ev_pos (by omega) (ev_pos (by decide) (ev_pos (by omega) (ev_pos (by omega) (ev_pos (by rw [e1]) (ev_pos (by omega) (ev_pos (by omega) (ev_pos (by rw [built_body]) ?_)))))))))
      exact Ev.bind vxlan_fixed_ev (ev_now rfl)
theorem VxlanBack : gangwaylaw08_VxlanBack.Pure := by
  intro v s _ _
  refine Ev.rounds ?_
  unfold gangwaylaw08_VxlanBack.f
  have h1 := mn_le (s.size : Int) 1700
  have h2 := mn_nonneg (size_nat s) (show (0 : Int) ≤ 1700 by decide)
  refine ev_pos h2 (ev_pos h1.1 ?_)
  have hs : (s.extract 0 (mn (s.size : Int) 1700).toNat).size ≤ 1700 := cut_size s 1700
  generalize s.extract 0 (mn (s.size : Int) 1700).toNat = s at *
  refine ev_succ ?_
  simp only [gangwaylaw08_VxlanBack.j0]
  rw [mask24]
  have hv := Int.emod_nonneg v (show (16777216 : Int) ≠ 0 by decide)
  have hv2 := Int.emod_lt_of_pos v (show (0 : Int) < 16777216 by decide)
  obtain ⟨n, hn⟩ := Int.eq_ofNat_of_zero_le hv
  rw [hn]
  have hn2 : n < 16777216 := by omega
  refine ev_succ ?_
  simp only [gangwaylaw08_VxlanBack.j1]
  refine Ev.bind (build_ev (by omega)) ?_
  unfold vbuild
  rw [if_pos (by omega), Int.toNat_natCast]
  dsimp only
  have hz := built_size n s
  refine Ev.bind (parse_ev (by omega)) ?_
  rw [parse_built hn2]
  refine ev_pos rfl (ev_pos rfl (ev_pos rfl (ev_pos rfl ?_)))
  have e : (((bs ([8, 0, 0, 0] ++ be 3 n ++ [0]) ++ s).size : Int) != wrap64 ((s.size : Int) + 8)) = false := by
    rw [w64 (by omega) (by omega), hz]
    exact bne_eq_false_iff_eq.2 (by omega)
  rw [e]
  exact back_j2 hs
end Go.Proofs.YthgdphfblajijaaDoor.Pure
