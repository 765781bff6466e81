/- CsumSeals: bytes of an even number, with their checksum behind them, or ahead of them, are right; with one byte that is another one, they are not: for every input (of at most 600 bytes, as the statement cuts them). -/
import Derived.Test.YtgfgebngmjchbaaCsumFix
import Derived.Test.YtgfgebngmjchbaaWords2
import Derived.OpenShut
import Derived.Test.YtgfgebngmjchbaaPx4
import Derived.Test.YtgfgebngmjchbaaPx6
import Derived.Test.YtgfgebngmjchbaaPx11
namespace Go.Proofs.Ytgfgebngmjchbaa.Pure
set_option linter.unusedSimpArgs false
set_option linter.unusedVariables false
open Go Go.RowKit Go.Proofs.YtgfgebngmjchbaaW.PrintWords Go.Proofs.YtgfgebngmjchbaaW.PrintLast Go.Proofs.YtgfgebngmjchbaaW.PrintMore Go.Proofs.Ytgfgebngmjchbaa.L Go.Proofs.Ytgfgebngmjchbaa.P

theorem be2_wsum {c : Nat} (h : c < 65536) : wsum (be 2 c) = c := by
  simp only [be, List.nil_append, List.cons_append, wsum]
  omega
theorem fixed_some : Ev (fun k => (gangwaylaw03_fixed.f k).bind fun t => some t) true := Ev.bind csum_fixed_ev (ev_now rfl)
theorem right_eq {l : List ByteArray} {m : List Nat} {b : Bool} (hc : cat l = m) (h1 : l.length ≤ 1099511627775) (h2 : m.length ≤ 1099511627775) (hb : decide (foldN (wsum m) = 65535) = b) : Ev (fun k => csum_Right.f k l) b := by
  subst hc
  subst hb
  exact right_f_ev h1 h2
theorem seals_j5 {s : ByteArray} (hs : s.size ≤ 600) (he : s.size % 2 = 0) (c k : Nat) (hc : c < 256) (hk : k < s.size) : Ev (fun n => gangwaylaw03_CsumSeals.j5 n s (c : Int) (bs (be 2 (csumN (nb s)))) (k : Int)) true := by
  have hl := nb_len s
  have hby := nb_byt s
  have hf := foldN_le (wsum (nb s))
  have hcs : csumN (nb s) = 65535 - foldN (wsum (nb s)) := rfl
  refine ev_succ ?_
  simp only [gangwaylaw03_CsumSeals.j5]
  rw [w64 (x := (k : Int) + 1) (by omega) (by omega)]
  have z0 : strOfNums [(c : Int)] = bs [c] := by
    rw [nums_bs _ (by simp; omega)]
    simp
  have z1 : (s.extract 0 (k : Int).toNat).size = k := by rw [ByteArray.size_extract]; omega
  have z2 : (s.extract ((k : Int) + 1).toNat s.size).size = s.size - (k + 1) := by rw [ByteArray.size_extract]; omega
  refine ev_pos (by omega) (ev_pos (by omega) (ev_some ?_))
  rw [z0]
  refine ev_pos (by rw [z1, bs_size]; simp; omega) (ev_pos (by omega) (ev_pos (by omega) (ev_pos (by rw [ByteArray.size_append, z1, z2, bs_size]; simp; omega) ?_)))
  have hnb : nb (s.extract 0 (k : Int).toNat ++ bs [c] ++ s.extract ((k : Int) + 1).toNat s.size) = (nb s).take k ++ (c :: (nb s).drop (k + 1)) := by
    rw [nb_append, nb_append, nb_bs (Byt.cons hc Byt.nil), nb_extract, nb_extract, List.drop_zero, List.take_of_length_le (i := s.size) (by omega), List.append_assoc, show ((k : Int) + 1).toNat = k + 1 by omega, Int.toNat_natCast]
    rfl
  have lt : ((nb s).take k ++ (c :: (nb s).drop (k + 1))).length = s.size := by
    rw [List.length_append, List.length_take, List.length_cons, List.length_drop]
    omega
  have hws := wsum_set (nb s) c k (by omega)
  have hold := getD_byt hby k
  have hsz : (s.extract 0 (k : Int).toNat ++ bs [c] ++ s.extract ((k : Int) + 1).toNat s.size).size = s.size := by
    rw [← nb_len, hnb, lt]
  generalize s.extract 0 (k : Int).toNat ++ bs [c] ++ s.extract ((k : Int) + 1).toNat s.size = t at *
  have hcat : cat [t, bs (be 2 (csumN (nb s)))] = nb t ++ be 2 (csumN (nb s)) := by rw [cat_two, nb_bs (be_byt _ _)]
  have hw2 : wsum (nb t ++ be 2 (csumN (nb s))) = wsum (nb t) + csumN (nb s) := by
    rw [wsum_append _ (by rw [nb_len]; omega), be2_wsum (by omega)]
  have hlen : (nb t ++ be 2 (csumN (nb s))).length ≤ 1099511627775 := by
    rw [List.length_append, be_len, nb_len]
    omega
  have hx := foldN_le (wsum (nb t))
  have hkey : foldN (wsum (nb t) + csumN (nb s)) = 65535 ↔ foldN (wsum (nb t)) = foldN (wsum (nb s)) := by
    have hzero : foldN (wsum (nb s)) = 0 → wsum (nb s) = 0 := by
      unfold foldN
      split <;> omega
    have hsmall : foldN (wsum (nb s)) = 0 → foldN (wsum (nb t)) ≠ 65535 := by
      intro h0
      have h3 := hzero h0
      rw [h3, ← hnb] at hws
      rw [foldN_small] <;> split at hws <;> omega
    rw [← foldN_add, hcs]
    generalize foldN (wsum (nb t)) = x at *
    generalize foldN (wsum (nb s)) = y at *
    unfold foldN
    split <;> omega
  refine Ev.bind (right_eq (b := decide (foldN (wsum (nb t)) = foldN (wsum (nb s)))) hcat (by simp) hlen ?_) ?_
  · rw [hw2]
    exact decide_eq_decide.2 hkey
  · refine ev_pos (by omega) ?_
    rw [bt_nb, Int.toNat_natCast]
    by_cases hsame : c = (nb s).getD k 0
    · refine ev_pos (by omega) ?_
      have hts : nb t = nb s := by
        rw [hnb, hsame]
        conv => rhs; rw [← List.take_append_drop k (nb s), List.drop_eq_getElem_cons (show k < (nb s).length by omega)]
        congr 2
        simp [List.getD_eq_getElem?_getD, List.getElem?_eq_getElem (show k < (nb s).length by omega)]
      refine ev_pos (by rw [hts]; simp) fixed_some
    · refine ev_neg (by omega) ?_
      have hwt := wsum_le (nb_byt t)
      have hwl := wsum_le hby
      rw [nb_len] at hwt hwl
      refine Ev.bind (total_ref_f_ev (by omega)) ?_
      rw [fold_ref _ (by omega)]
      refine ev_some (Ev.bind (total_ref_f_ev (by omega)) ?_)
      rw [fold_ref _ (by omega)]
      refine ev_some (ev_pos ?_ fixed_some)
      by_cases hq : foldN (wsum (nb t)) = foldN (wsum (nb s))
      · rw [hq]
        simp
      · have : (((foldN (wsum (nb t)) : Nat) : Int) == ((foldN (wsum (nb s)) : Nat) : Int)) = false := by
          rw [beq_eq_false_iff_ne]
          omega
        rw [this, decide_eq_false hq]
        rfl
theorem seals_j2 {s : ByteArray} (hs : s.size ≤ 600) (he : s.size % 2 = 0) (x1 : Int) (c : Nat) (hc : c < 256) : Ev (fun k => gangwaylaw03_CsumSeals.j2 k s x1 (c : Int)) true := by
  have hl := nb_len s
  have hf := foldN_le (wsum (nb s))
  have hcs : csumN (nb s) = 65535 - foldN (wsum (nb s)) := rfl
  refine ev_succ ?_
  simp only [gangwaylaw03_CsumSeals.j2]
  refine Ev.bind (of_f_ev (by simp) (by rw [cat_one]; omega)) ?_
  rw [cat_one, mask16, show ((csumN (nb s) : Nat) : Int) % 65536 = ((csumN (nb s) : Nat) : Int) by omega, u64w (by omega) (by omega)]
  refine Ev.bind (bytes_ev (n := 2) (by decide) (by omega)) ?_
  have hw : wsum (be 2 (csumN (nb s))) = csumN (nb s) := be2_wsum (by omega)
  have c1 : cat [s, bs (be 2 (csumN (nb s)))] = nb s ++ be 2 (csumN (nb s)) := by rw [cat_two, nb_bs (be_byt _ _)]
  have c2 : cat [bs (be 2 (csumN (nb s))), s] = be 2 (csumN (nb s)) ++ nb s := by rw [cat_two, nb_bs (be_byt _ _)]
  have f1 : foldN (wsum (nb s) + csumN (nb s)) = 65535 := by
    rw [← foldN_add, hcs]
    generalize foldN (wsum (nb s)) = y at *
    unfold foldN
    split <;> omega
  have r1 : Ev (fun k => csum_Right.f k [s, bs (be 2 (csumN (nb s)))]) true := right_eq c1 (by simp) (by rw [List.length_append, be_len]; omega) (by
    rw [wsum_append _ (by omega), hw, f1]
    rfl)
  have r2 : Ev (fun k => csum_Right.f k [bs (be 2 (csumN (nb s))), s]) true := right_eq c2 (by simp) (by rw [List.length_append, be_len]; omega) (by
    rw [wsum_append _ (by rw [be_len]), hw, Nat.add_comm, f1]
    rfl)
  refine ev_succ ?_
  simp only [gangwaylaw03_CsumSeals.j3]
  refine Ev.bind r1 (ev_pos rfl (Ev.bind r2 (ev_pos rfl ?_)))
  refine ev_succ ?_
  simp only [gangwaylaw03_CsumSeals.j4]
  by_cases h0 : s.size = 0
  · refine ev_pos (by simp [h0]) (ev_pos (by omega) ?_)
    exact Ev.bind r1 (ev_pos rfl fixed_some)
  · refine ev_neg (by rw [beq_iff_eq]; omega) (ev_neg (by omega) ?_)
    have hx := Int.emod_nonneg x1 (show (65536 : Int) ≠ 0 by decide)
    rw [mask16, Int.tmod_eq_emod_of_nonneg hx]
    have hm : x1 % 65536 % (s.size : Int) = (((x1 % 65536).toNat % s.size : Nat) : Int) := by
      rw [Int.natCast_emod]
      congr 1
      omega
    rw [hm]
    exact seals_j5 hs he c _ hc (Nat.mod_lt _ (by omega))
theorem CsumSeals : gangwaylaw03_CsumSeals.Pure := by
  intro s x1 c _ _ wc
  have hcb := bounds_u8 wc
  obtain ⟨c, rfl⟩ := Int.eq_ofNat_of_zero_le hcb.1
  refine Ev.rounds ?_
  unfold gangwaylaw03_CsumSeals.f
  have h1 := mn_le (s.size : Int) 600
  have h2 := mn_nonneg (size_nat s) (show (0 : Int) ≤ 600 by decide)
  refine ev_pos h2 (ev_pos h1.1 ?_)
  have hs := cut_size s 600
  generalize s.extract 0 (mn (s.size : Int) 600).toNat = s at *
  refine ev_succ ?_
  simp only [gangwaylaw03_CsumSeals.j0]
  refine ev_succ ?_
  simp only [gangwaylaw03_CsumSeals.j1]
  by_cases ho : (s.size : Int) % 2 = 1
  · refine ev_pos (by simpa using ho) ?_
    rw [w64 (x := (s.size : Int) - 1) (by omega) (by omega)]
    refine ev_pos (by omega) (ev_pos (by omega) ?_)
    exact seals_j2 (by rw [ByteArray.size_extract]; omega) (by rw [ByteArray.size_extract]; omega) x1 c (by omega)
  · refine ev_neg (by simpa using ho) ?_
    exact seals_j2 hs (by omega) x1 c (by omega)
end Go.Proofs.Ytgfgebngmjchbaa.Pure
