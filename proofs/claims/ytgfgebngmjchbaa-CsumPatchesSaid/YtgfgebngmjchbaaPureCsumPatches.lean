/- CsumPatches: a checksum that is patched is that of the bytes with the other word, but that 0 and 65535 are one: for every input (of at most 600 bytes, as the statement cuts them). -/
import Derived.Test.YtgfgebngmjchbaaCsumFix
import Derived.Test.YtgfgebngmjchbaaWords2
import Derived.Test.YtgfgebngmjchbaaPx6
import Derived.Test.YtgfgebngmjchbaaPx12
namespace Go.Proofs.Ytgfgebngmjchbaa.Pure
set_option linter.unusedSimpArgs false
set_option linter.unusedVariables false
open Go Go.RowKit Go.Proofs.YtgfgebngmjchbaaW.PrintWords Go.Proofs.YtgfgebngmjchbaaW.PrintLast Go.Proofs.YtgfgebngmjchbaaW.PrintMore Go.Proofs.Ytgfgebngmjchbaa.L Go.Proofs.Ytgfgebngmjchbaa.P

theorem patches_j2 (a b : Nat) (h : a = b ∨ (a = 0 ∧ b = 65535) ∨ (a = 65535 ∧ b = 0)) : Ev (fun k => gangwaylaw03_CsumPatches.j2 k (a : Int) (b : Int)) true := by
  have hfix : Ev (fun k => (gangwaylaw03_fixed.f k).bind fun t => some t) true := Ev.bind csum_fixed_ev (ev_now rfl)
  refine ev_succ ?_
  simp only [gangwaylaw03_CsumPatches.j2]
  rcases h with rfl | ⟨rfl, rfl⟩ | ⟨rfl, rfl⟩
  · exact ev_pos rfl hfix
  · exact ev_neg (by decide) (ev_pos (by decide) (ev_pos (by decide) hfix))
  · exact ev_neg (by decide) (ev_neg (by decide) (ev_pos (by decide) (ev_pos (by decide) hfix)))
theorem CsumPatches : gangwaylaw03_CsumPatches.Pure := by
  intro s x1 x2 _ _ _
  refine Ev.rounds ?_
  unfold gangwaylaw03_CsumPatches.f
  have h1 := mn_le (s.size : Int) 600
  have h2 := mn_nonneg (size_nat s) (show (0 : Int) ≤ 600 by decide)
  refine ev_pos h2 (ev_pos h1.1 ?_)
  have hs := cut_size s 600
  generalize s.extract 0 (mn (s.size : Int) 600).toNat = s at *
  have hl := nb_len s
  refine ev_succ ?_
  simp only [gangwaylaw03_CsumPatches.j0]
  by_cases hsm : (s.size : Int) < 2
  · exact ev_pos hsm (Ev.bind csum_fixed_ev (ev_now rfl))
  · refine ev_neg hsm ?_
    have hx := Int.emod_nonneg x1 (show (65536 : Int) ≠ 0 by decide)
    have hy := Int.emod_nonneg x2 (show (65536 : Int) ≠ 0 by decide)
    have hy2 := Int.emod_lt_of_pos x2 (show (0 : Int) < 65536 by decide)
    rw [w64 (x := (s.size : Int) / 2) (by omega) (by omega)]
    refine ev_neg (by omega) ?_
    rw [mask16, Int.tmod_eq_emod_of_nonneg hx]
    have hm : x1 % 65536 % ((s.size : Int) / 2) = (((x1 % 65536).toNat % (s.size / 2) : Nat) : Int) := by
      rw [Int.natCast_emod]
      congr 1
      omega
    have hmb : (x1 % 65536).toNat % (s.size / 2) < s.size / 2 := Nat.mod_lt _ (by omega)
    rw [hm]
    generalize (x1 % 65536).toNat % (s.size / 2) = m at *
    rw [w64 (x := (m : Int) * 2) (by omega) (by omega)]
    have hk1 : m * 2 + 1 < s.size := by omega
    rw [show (m : Int) * 2 = ((m * 2 : Nat) : Int) by omega]
    have hke : (m * 2) % 2 = 0 := by omega
    generalize m * 2 = k at *
    refine ev_succ ?_
    simp only [gangwaylaw03_CsumPatches.j1]
    rw [w64 (x := (k : Int) + 1) (by omega) (by omega), w64 (x := (k : Int) + 2) (by omega) (by omega), mask16, u64w (x := x2 % 65536) (by omega) (by omega)]
    refine ev_pos (by omega) (ev_pos (by omega) (ev_pos (by omega) (ev_pos (by omega) (ev_pos (by omega) ?_))))
    rw [show x2 % 65536 = (((x2 % 65536).toNat : Nat) : Int) by omega]
    have hnow : (x2 % 65536).toNat < 65536 := by omega
    generalize (x2 % 65536).toNat = now at *
    refine Ev.bind (bytes_ev (n := 2) (by decide) (by omega)) ?_
    have z1 : (s.extract 0 (k : Int).toNat).size = k := by rw [ByteArray.size_extract]; omega
    have z2 : (s.extract ((k : Int) + 2).toNat s.size).size = s.size - (k + 2) := by rw [ByteArray.size_extract]; omega
    refine ev_pos (by rw [z1, bs_size, be_len]; omega) (ev_pos (by omega) (ev_pos (by omega) (ev_pos (by rw [ByteArray.size_append, z1, z2, bs_size, be_len]; omega) ?_)))
    refine Ev.bind (of_f_ev (by simp) (by rw [cat_one]; omega)) ?_
    have hby := nb_byt s
    have b1 := getD_byt hby k
    have b2 := getD_byt hby (k + 1)
    rw [bt_nb, bt_nb, Int.toNat_natCast, show ((k : Int) + 1).toNat = k + 1 by omega]
    rw [w64 (x := (((nb s).getD k 0 : Nat) : Int)) (by omega) (by omega), w64 (x := (((nb s).getD (k + 1) 0 : Nat) : Int)) (by omega) (by omega), w64 (x := (((nb s).getD k 0 : Nat) : Int) * 256) (by omega) (by omega), w64 (by omega) (by omega)]
    refine Ev.bind (patch_f_ev _ _ _) ?_
    have hnb : nb (s.extract 0 k ++ bs (be 2 now) ++ s.extract ((k : Int) + 2).toNat s.size) = (nb s).take k ++ (be 2 now ++ (nb s).drop (k + 2)) := by
      rw [nb_append, nb_append, nb_bs (be_byt _ _), nb_extract, nb_extract, List.drop_zero, List.take_of_length_le (i := s.size) (by omega), List.append_assoc, show ((k : Int) + 2).toNat = k + 2 by omega]
    have lt : ((nb s).take k).length = k := by rw [List.length_take]; omega
    have hlen2 : (cat [s.extract 0 k ++ bs (be 2 now) ++ s.extract ((k : Int) + 2).toNat s.size]).length ≤ 1099511627775 := by
      rw [cat_one, hnb, List.length_append, List.length_append, lt, be_len, List.length_drop]
      omega
    refine Ev.bind (of_f_ev (by simp) hlen2) ?_
    rw [cat_one, cat_one, hnb]
    have w1 : wsum (nb s) = wsum ((nb s).take k) + (256 * (nb s).getD k 0 + (nb s).getD (k + 1) 0 + wsum ((nb s).drop (k + 2))) := by
      conv => lhs; rw [← List.take_append_drop k (nb s)]
      rw [wsum_append _ (by omega), drop_two (i := k) (by omega)]
      simp [wsum]
    have w2 : wsum ((nb s).take k ++ (be 2 now ++ (nb s).drop (k + 2))) = wsum ((nb s).take k) + (now + wsum ((nb s).drop (k + 2))) := by
      rw [wsum_append _ (by omega), wsum_append _ (by rw [be_len])]
      have : wsum (be 2 now) = now := by
        simp only [be, List.nil_append, List.cons_append, wsum]
        omega
      rw [this]
    have hf := foldN_le (wsum (nb s))
    unfold csumN
    rw [w2]
    have q1 : (((65535 - foldN (wsum (nb s)) : Nat) : Int) % 65536).toNat = 65535 - foldN (wsum (nb s)) := by omega
    have q2 : ((((nb s).getD k 0 : Nat) : Int) * 256 + (((nb s).getD (k + 1) 0 : Nat) : Int)) % 65536 = ((256 * (nb s).getD k 0 + (nb s).getD (k + 1) 0 : Nat) : Int) := by omega
    have q3 : ((now : Int) % 65536).toNat = now := by omega
    rw [q1, q2, q3, Int.toNat_natCast]
    rw [w1] at hf ⊢
    generalize wsum ((nb s).take k) = A at *
    generalize wsum ((nb s).drop (k + 2)) = B at *
    have hwd : 256 * (nb s).getD k 0 + (nb s).getD (k + 1) 0 ≤ 65535 := by omega
    generalize 256 * (nb s).getD k 0 + (nb s).getD (k + 1) 0 = wd at *
    rw [show 65535 - (65535 - foldN (A + (wd + B))) + 65535 - wd + now = foldN (A + (wd + B)) + (65535 - wd + now) by omega, foldN_add]
    refine patches_j2 _ _ ?_
    have e := foldN_mod (A + (wd + B) + (65535 - wd + now)) (A + (now + B)) (by omega)
    have l1 := foldN_le (A + (wd + B) + (65535 - wd + now))
    have l2 := foldN_le (A + (now + B))
    omega
end Go.Proofs.Ytgfgebngmjchbaa.Pure
