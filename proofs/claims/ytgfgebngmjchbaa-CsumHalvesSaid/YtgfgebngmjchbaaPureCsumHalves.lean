/- CsumHalves: the checksum of bytes is told by those of two parts, of which the first one has an even number: for every input (of at most 600 bytes, as the statement cuts them). -/
import Derived.Test.YtgfgebngmjchbaaCsumFix
import Derived.Test.YtgfgebngmjchbaaPx14
namespace Go.Proofs.Ytgfgebngmjchbaa.Pure
set_option linter.unusedSimpArgs false
set_option linter.unusedVariables false
open Go Go.RowKit Go.Proofs.YtgfgebngmjchbaaW.PrintWords Go.Proofs.YtgfgebngmjchbaaW.PrintLast Go.Proofs.YtgfgebngmjchbaaW.PrintMore Go.Proofs.Ytgfgebngmjchbaa.L Go.Proofs.Ytgfgebngmjchbaa.P

theorem nat_andNot_one (a : Nat) (h : a < 2 ^ 62) : Go.bits .andNot .i64 (a : Int) 1 = ((a - a % 2 : Nat) : Int) := by
  have e0 : Go.bits .andNot .i64 (a : Int) 1 = IntKind.i64.wrap ((BitVec.ofInt 64 (a : Int) &&& ~~~ (BitVec.ofInt 64 1)).toNat : Int) := rfl
  rw [e0]
  have e1 : BitVec.ofInt 64 (a : Int) &&& ~~~ (BitVec.ofInt 64 1) = (BitVec.ofInt 64 (a : Int) >>> 1) <<< 1 := by
    apply BitVec.eq_of_getLsbD_eq
    intro i hi
    have e2 : BitVec.ofInt 64 1 = 1#64 := rfl
    rw [e2]
    simp only [BitVec.getLsbD_and, BitVec.getLsbD_not, BitVec.getLsbD_one, BitVec.getLsbD_shiftLeft, BitVec.getLsbD_ushiftRight]
    by_cases h0 : i = 0
    · subst h0
      simp
    · have h1 : 1 + (i - 1) = i := by omega
      have h2 : ¬ i < 1 := by omega
      simp [hi, h0, h1, h2]
  rw [e1, BitVec.toNat_shiftLeft, BitVec.toNat_ushiftRight, BitVec.ofInt_natCast, BitVec.toNat_ofNat]
  have e3 : a % 2 ^ 64 = a := Nat.mod_eq_of_lt (by omega)
  rw [e3, Nat.shiftRight_eq_div_pow, Nat.shiftLeft_eq, Nat.pow_one]
  have e4 : a / 2 * 2 % 2 ^ 64 = a / 2 * 2 := Nat.mod_eq_of_lt (by omega)
  rw [e4, IntKind.wrap_i64]
  omega
theorem foldN_two (a b : Nat) : foldN (a + b) = if foldN a + foldN b > 65535 then foldN a + foldN b - 65535 else foldN a + foldN b := by
  have h1 := foldN_le a
  have h2 := foldN_le b
  have h3 : foldN (a + b) = foldN (foldN a + foldN b) := by
    rw [foldN_add, Nat.add_comm a (foldN b), foldN_add, Nat.add_comm]
  rw [h3]
  generalize foldN a = x at *
  generalize foldN b = y at *
  unfold foldN
  split
  · split <;> omega
  · split <;> omega
theorem halves_j2 {s : ByteArray} (hs : s.size ≤ 600) {k : Nat} (hk : k ≤ s.size) (x8 : Int) (hx : (csumN (nb s) : Int) = 65535 - x8) (hb : 0 ≤ x8 ∧ x8 ≤ 65535) : Ev (fun n => gangwaylaw03_CsumHalves.j2 n s (k : Int) x8) true := by
  have hl := nb_len s
  refine ev_succ ?_
  simp only [gangwaylaw03_CsumHalves.j2, Int.toNat_natCast]
  have hc1 : (cat [s]).length ≤ 1099511627775 := by rw [cat_one]; omega
  have e2 : cat [s.extract 0 k, s.extract k s.size] = nb s := by
    rw [cat_two, nb_extract, nb_extract, List.drop_zero, List.take_of_length_le (i := s.size) (by omega), List.take_append_drop]
  refine Ev.bind (of_f_ev (by simp) hc1) (ev_pos ?_ ?_)
  · rw [cat_one, hx, w64 (by omega) (by omega)]
  · refine ev_pos (by omega) (ev_pos (by omega) ?_)
    refine Ev.bind (of_f_ev (by simp) (by rw [e2]; omega)) (Ev.bind (of_f_ev (by simp) hc1) (ev_pos (by rw [e2, cat_one]) ?_))
    exact Ev.bind csum_fixed_ev (ev_now rfl)
theorem CsumHalves : gangwaylaw03_CsumHalves.Pure := by
  intro s x1 _ _
  refine Ev.rounds ?_
  unfold gangwaylaw03_CsumHalves.f
  have h1 := mn_le (s.size : Int) 600
  have h2 := mn_nonneg (size_nat s) (show (0 : Int) ≤ 600 by decide)
  refine ev_pos h2 (ev_pos h1.1 ?_)
  have hs := cut_size s 600
  generalize s.extract 0 (mn (s.size : Int) 600).toNat = s at *
  have hl := nb_len s
  have hx := Int.emod_nonneg x1 (show (65536 : Int) ≠ 0 by decide)
  have hx2 := Int.emod_lt_of_pos x1 (show (0 : Int) < 65536 by decide)
  refine ev_succ ?_
  simp only [gangwaylaw03_CsumHalves.j0]
  rw [w64 (x := (s.size : Int) + 1) (by omega) (by omega)]
  refine ev_neg (by omega) ?_
  rw [mask16, Int.tmod_eq_emod_of_nonneg hx]
  have hm : x1 % 65536 % ((s.size : Int) + 1) = (((x1 % 65536).toNat % (s.size + 1) : Nat) : Int) := by
    rw [Int.natCast_emod]
    congr 1
    omega
  have hmb : (x1 % 65536).toNat % (s.size + 1) < s.size + 1 := Nat.mod_lt _ (by omega)
  rw [hm]
  generalize (x1 % 65536).toNat % (s.size + 1) = m at *
  rw [nat_andNot_one m (by omega)]
  have hke : (m - m % 2) % 2 = 0 := by omega
  have hkl : m - m % 2 ≤ s.size := by omega
  generalize m - m % 2 = k at *
  refine ev_succ ?_
  simp only [gangwaylaw03_CsumHalves.j1, Int.toNat_natCast]
  refine ev_pos (by omega) (ev_pos (by omega) ?_)
  have n1 : nb (s.extract 0 k) = (nb s).take k := by rw [nb_extract, List.drop_zero]
  have n2 : nb (s.extract k s.size) = (nb s).drop k := by rw [nb_extract, List.take_of_length_le (by omega)]
  refine Ev.bind (of_f_ev (by simp) (by rw [cat_one, n1, List.length_take]; omega)) ?_
  refine Ev.bind (of_f_ev (by simp) (by rw [cat_one, n2, List.length_drop]; omega)) ?_
  rw [cat_one, cat_one, n1, n2]
  have hw : wsum (nb s) = wsum ((nb s).take k) + wsum ((nb s).drop k) := by
    rw [← wsum_append _ (by rw [List.length_take]; omega), List.take_append_drop]
  have hf := foldN_two (wsum ((nb s).take k)) (wsum ((nb s).drop k))
  rw [← hw] at hf
  have ha := foldN_le (wsum ((nb s).take k))
  have hb := foldN_le (wsum ((nb s).drop k))
  have hc : csumN (nb s) = 65535 - foldN (wsum (nb s)) := rfl
  have hd := foldN_le (wsum (nb s))
  unfold csumN
  generalize foldN (wsum ((nb s).take k)) = x at *
  generalize foldN (wsum ((nb s).drop k)) = y at *
  rw [show (65535 : Int) - ((65535 - x : Nat) : Int) = (x : Int) by omega, show (65535 : Int) - ((65535 - y : Nat) : Int) = (y : Int) by omega]
  rw [w64 (x := (x : Int)) (by omega) (by omega), w64 (x := (y : Int)) (by omega) (by omega), w64 (x := (x : Int) + (y : Int)) (by omega) (by omega)]
  by_cases hg : x + y > 65535
  · rw [if_pos hg] at hf
    refine ev_pos (by omega) ?_
    rw [w64 (by omega) (by omega)]
    exact halves_j2 hs hkl _ (by omega) (by omega)
  · rw [if_neg hg] at hf
    refine ev_neg (by omega) ?_
    exact halves_j2 hs hkl _ (by omega) (by omega)
end Go.Proofs.Ytgfgebngmjchbaa.Pure
