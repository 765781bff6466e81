/- The plain laws of the seat and what its printed functions compute, in one text. -/
import Derived.Test.YtbkgaplldfilnaaDoorPx25
import Derived.Test.YtbkgaplldfilnaaDoorPx26
import Derived.Test.YtbkgaplldfilnaaDoorStationPlainT
import Derived.Test.YtbkgaplldfilnaaDoorPx13
import Derived.Test.YtbkgaplldfilnaaDoorPx23
import Derived.Test.YtbkgaplldfilnaaDoorPx24
import Derived.Test.YtbkgaplldfilnaaDoorPx29
namespace Go.Proofs.YtbkgaplldfilnaaDoor.P
set_option linter.unusedSimpArgs false
set_option linter.unusedVariables false
open Go Go.RowKit Go.Proofs.YtbkgaplldfilnaaDoorW.PrintWords Go.Proofs.YtbkgaplldfilnaaDoorW.PrintLast Go.Proofs.YtbkgaplldfilnaaDoorW.PrintMore Go.Proofs.YtbkgaplldfilnaaDoor.L

theorem u64n {n : Nat} (h : n ≤ 18446744073709551615) : IntKind.u64.wrap ((n : Nat) : Int) = ((n : Nat) : Int) := u64w (by omega) (by omega)
theorem be_one {n : Nat} (h : n < 256) : be 1 n = [n] := by
  simp only [be, List.nil_append]
  rw [Nat.mod_eq_of_lt h]
theorem one_at {l : List Nat} {i : Nat} (h : i < l.length) : numAt l i 1 = l.getD i 0 := by
  unfold numAt
  rw [i_getD_at h]
  simp [num]
theorem rnum_ev {s : ByteArray} {i n : Nat} (hn : n ≤ 4) (h : i + n ≤ s.size) : Ev (fun k => gangwayref06_num.f k s (i : Int) ((i + n : Nat) : Int)) ((numAt (nb s) i n : Nat) : Int) := by
  have hl := nb_len s
  unfold gangwayref06_num.f
  refine ev_pos (by omega) (ev_pos (by omega) (ev_pos (by omega) ?_))
  rw [Int.toNat_natCast, Int.toNat_natCast]
  have hx := num_ev (t := s.extract i (i + n)) (by rw [ByteArray.size_extract]; omega)
  rw [nb_extract, List.drop_take, Nat.add_sub_cancel_left] at hx
  have hlt := numAt_lt (nb_byt s) i n
  have h4 : 256 ^ n ≤ 256 ^ 4 := Nat.pow_le_pow_right (by decide) hn
  have e4 : (256 : Nat) ^ 4 = 4294967296 := by decide
  exact Ev.bind hx (ev_now (w64 (by show -9223372036854775808 ≤ ((numAt (nb s) i n : Nat) : Int); omega) (by show ((numAt (nb s) i n : Nat) : Int) ≤ 9223372036854775807; omega)))
theorem riparse_j0 {s : ByteArray} (hs : s.size ≤ 1000000) (h20 : 20 ≤ s.size) (hn : 20 ≤ numAt (nb s) 2 2) (hf : numAt (nb s) 6 2 < 32768) :
    Ev (fun k => gangwayref06_Parse.j0 k s ((numAt (nb s) 2 2 : Nat) : Int) ((numAt (nb s) 6 2 : Nat) : Int) false) (if s.size < numAt (nb s) 2 2 then ibad 60 else iread s) := by
  have hl := nb_len s
  refine ev_succ ?_
  simp only [gangwayref06_Parse.j0]
  refine ev_neg (by decide) ?_
  by_cases hz : s.size < numAt (nb s) 2 2
  · rw [if_pos hz]
    exact ev_pos (by omega) (ev_now rfl)
  · rw [if_neg hz]
    refine ev_neg (by omega) ?_
    refine Ev.bind (rnum_ev (i := 1) (n := 1) (by decide) (by omega)) (Ev.bind (rnum_ev (i := 4) (n := 2) (by decide) (by omega)) (Ev.bind (rnum_ev (i := 8) (n := 1) (by decide) (by omega)) (Ev.bind (rnum_ev (i := 9) (n := 1) (by decide) (by omega)) (Ev.bind (rnum_ev (i := 12) (n := 4) (by decide) (by omega)) (Ev.bind (rnum_ev (i := 16) (n := 4) (by decide) (by omega)) ?_)))))
    refine ev_pos (by omega) (ev_pos (by omega) (ev_now ?_))
    have l1 := numAt_lt (nb_byt s) 12 4
    have l2 := numAt_lt (nb_byt s) 16 4
    have e4 : (256 : Nat) ^ 4 = 4294967296 := by decide
    unfold iread
    rw [one_at (by omega), one_at (by omega), one_at (by omega)]
    have m1 : ((numAt (nb s) 12 4 : Nat) : Int) % 4294967296 = ((numAt (nb s) 12 4 : Nat) : Int) := by omega
    have m2 : ((numAt (nb s) 16 4 : Nat) : Int) % 4294967296 = ((numAt (nb s) 16 4 : Nat) : Int) := by omega
    have m3 : ((numAt (nb s) 6 2 : Nat) : Int).tmod 8192 = ((numAt (nb s) 6 2 % 8192 : Nat) : Int) := by
      rw [Int.tmod_eq_emod_of_nonneg (by omega)]
      omega
    have m4 : (wrap64 (((numAt (nb s) 6 2 : Nat) : Int).tdiv 16384) == 1) = decide (numAt (nb s) 6 2 / 16384 % 2 = 1) := by
      rw [Int.tdiv_eq_ediv_of_nonneg (by omega), w64 (by omega) (by omega), Bool.eq_iff_iff, beq_iff_eq, decide_eq_true_eq]
      omega
    have m5 : ((wrap64 (((numAt (nb s) 6 2 : Nat) : Int).tdiv 8192)).tmod 2 == 1) = decide (numAt (nb s) 6 2 / 8192 % 2 = 1) := by
      rw [Int.tdiv_eq_ediv_of_nonneg (by omega), w64 (by omega) (by omega), Int.tmod_eq_emod_of_nonneg (by omega), Bool.eq_iff_iff, beq_iff_eq, decide_eq_true_eq]
      omega
    rw [m1, m2, m3, m4, m5, Int.toNat_natCast]
theorem riparse_ev {s : ByteArray} (hs : s.size ≤ 1000000) : Ev (fun k => gangwayref06_Parse.f k s) (iparse s) := by
  have hl := nb_len s
  have bad : ∀ c : Int, iwrong s = c → c ≠ 0 → iparse s = ibad c := fun c h hc => by
    unfold iparse
    rw [if_neg (by omega), h]
  unfold gangwayref06_Parse.f
  by_cases h1 : s.size < 20
  · have hw : iwrong s = 60 := by
      unfold iwrong
      rw [if_pos h1]
    rw [bad 60 hw (by decide)]
    exact ev_pos (by omega) (ev_now rfl)
  have b0 : bt s 0 = (((nb s).getD 0 0 : Nat) : Int) := bt_at_nb s 0
  rw [b0]
  refine ev_neg (by omega) (ev_pos (by omega) ?_)
  by_cases h2 : (nb s).getD 0 0 ≠ 69
  · have hw : iwrong s = 61 := by
      unfold iwrong
      rw [if_neg h1, if_pos h2]
    rw [bad 61 hw (by decide)]
    exact ev_neg (by omega) (ev_now rfl)
  refine ev_pos (by omega) (ev_pos (by decide) (ev_pos (by omega) ?_))
  have hof := of_ref_ev (s := s.extract 0 20) (by rw [ByteArray.size_extract]; omega)
  rw [nb_extract, List.drop_zero] at hof
  have hle := foldN_le (wsum ((nb s).take 20))
  refine Ev.bind hof ?_
  by_cases h3 : foldN (wsum ((nb s).take 20)) ≠ 65535
  · have hw : iwrong s = 62 := by
      unfold iwrong
      rw [if_neg h1, if_neg h2, if_pos h3]
    rw [bad 62 hw (by decide)]
    exact ev_neg (by unfold csumN; omega) (ev_now rfl)
  refine ev_pos (by unfold csumN; omega) ?_
  have hn := numAt_lt (nb_byt s) 2 2
  have hf := numAt_lt (nb_byt s) 6 2
  have e2 : (256 : Nat) ^ 2 = 65536 := by decide
  refine Ev.bind (rnum_ev (i := 2) (n := 2) (by decide) (by omega)) (Ev.bind (rnum_ev (i := 6) (n := 2) (by decide) (by omega)) ?_)
  by_cases h4 : numAt (nb s) 2 2 < 20
  · have hw : iwrong s = 61 := by
      unfold iwrong
      rw [if_neg h1, if_neg h2, if_neg h3, if_pos h4]
    rw [bad 61 hw (by decide)]
    refine ev_pos (by omega) (ev_succ ?_)
    simp only [gangwayref06_Parse.j0]
    exact ev_pos trivial (ev_now rfl)
  refine ev_neg (by omega) ?_
  by_cases h5 : 32768 ≤ numAt (nb s) 6 2
  · have hw : iwrong s = 61 := by
      unfold iwrong
      rw [if_neg h1, if_neg h2, if_neg h3, if_neg h4, if_pos h5]
    rw [bad 61 hw (by decide), decide_eq_true (show ((numAt (nb s) 6 2 : Nat) : Int) ≥ 32768 by omega)]
    refine ev_succ ?_
    simp only [gangwayref06_Parse.j0]
    exact ev_pos trivial (ev_now rfl)
  rw [decide_eq_false (show ¬ ((numAt (nb s) 6 2 : Nat) : Int) ≥ 32768 by omega)]
  have hj := riparse_j0 (s := s) hs (by omega) (by omega) (by omega)
  by_cases h6 : s.size < numAt (nb s) 2 2
  · have hw : iwrong s = 60 := by
      unfold iwrong
      rw [if_neg h1, if_neg h2, if_neg h3, if_neg h4, if_neg h5, if_pos h6]
    rw [bad 60 hw (by decide)]
    rw [if_pos h6] at hj
    exact hj
  have hw : iwrong s = 0 := by
    unfold iwrong
    rw [if_neg h1, if_neg h2, if_neg h3, if_neg h4, if_neg h5, if_neg h6]
  rw [if_neg h6] at hj
  have e : iparse s = iread s := if_pos hw
  rw [e]
  exact hj
end Go.Proofs.YtbkgaplldfilnaaDoor.P
namespace Go.Proofs.YtbkgaplldfilnaaDoor.P
open Go Go.RowKit Go.Proofs.YtbkgaplldfilnaaDoorW.PrintWords Go.Proofs.YtbkgaplldfilnaaDoorW.PrintLast Go.Proofs.YtbkgaplldfilnaaDoorW.PrintMore Go.Proofs.YtbkgaplldfilnaaDoor.L

theorem numR_ev {s : ByteArray} {i n : Nat} (hn : n ≤ 8) : Ev (fun k => gangwayref01_Num.f k (s.extract i (i + n))) ((numAt (nb s) i n : Nat) : Int) := by
  have e : nb (s.extract i (i + n)) = ((nb s).drop i).take n := by rw [nb_extract, List.drop_take, Nat.add_sub_cancel_left]
  have := num_ev (t := s.extract i (i + n)) (by rw [ByteArray.size_extract]; omega)
  rw [e] at this
  exact this
theorem parseR_j0 {s : ByteArray} (h8 : 8 ≤ s.size) {n m : Nat} (hn8 : 8 ≤ n) (hn : n ≤ s.size) : Ev (fun k => gangwayref07_Parse.j0 k s (n : Int) (m : Int) false) (((numAt (nb s) 0 2 : Nat) : Int), ((numAt (nb s) 2 2 : Nat) : Int), decide (m = 0), s.extract 8 n, 0) := by
  have hby := nb_byt s
  have hx := numAt_lt hby 0 2
  have hy := numAt_lt hby 2 2
  have h256 : (256 : Nat) ^ 2 = 65536 := by decide
  refine ev_succ ?_
  simp only [gangwayref07_Parse.j0, Bool.false_eq_true, if_false]
  refine ev_pos (by decide) (ev_pos (by omega) (Ev.bind (numR_ev (i := 0) (n := 2) (by decide)) (ev_pos (by decide) (ev_pos (by omega) (Ev.bind (numR_ev (i := 2) (n := 2) (by decide)) (ev_pos (by omega) (ev_pos (by omega) (ev_now ?_))))))))
  rw [w64 (by omega) (by omega), w64 (by omega) (by omega), Int.toNat_natCast]
  have : ((m : Int) == 0) = decide (m = 0) := by
    rw [Bool.eq_iff_iff, beq_iff_eq, decide_eq_true_eq]
    omega
  rw [this]
theorem parseR_ev {a b : Nat} (ha : a < 4294967296) (hb : b < 4294967296) {s : ByteArray} (hs : s.size ≤ 1000000) : Ev (fun k => gangwayref07_Parse.f k (a : Int) (b : Int) s) (uparse a b s) := by
  have hl := nb_len s
  have hby := nb_byt s
  unfold gangwayref07_Parse.f uparse
  by_cases h0 : s.size < 8
  · rw [if_pos h0]
    exact ev_pos (by omega) (ev_now rfl)
  · rw [if_neg h0]
    refine ev_neg (by omega) (ev_pos (by decide) (ev_pos (by omega) (Ev.bind (numR_ev (i := 4) (n := 2) (by decide)) ?_)))
    have hn := numAt_lt hby 4 2
    have hm := numAt_lt hby 6 2
    have h256 : (256 : Nat) ^ 2 = 65536 := by decide
    rw [w64 (x := ((numAt (nb s) 4 2 : Nat) : Int)) (by omega) (by omega)]
    by_cases h1 : numAt (nb s) 4 2 < 8
    · rw [if_pos h1]
      exact ev_pos (by omega) (ev_now rfl)
    · rw [if_neg h1]
      refine ev_neg (by omega) ?_
      by_cases h2 : s.size < numAt (nb s) 4 2
      · rw [if_pos h2]
        exact ev_pos (by omega) (ev_now rfl)
      · rw [if_neg h2]
        refine ev_neg (by omega) (ev_pos (by decide) (ev_pos (by omega) (Ev.bind (numR_ev (i := 6) (n := 2) (by decide)) ?_)))
        by_cases h3 : numAt (nb s) 6 2 = 0
        · rw [if_neg (by omega)]
          refine ev_pos (by omega) ?_
          exact parseR_j0 (by omega) (by omega) (by omega)
        · refine ev_neg (by omega) (Ev.bind (headR_ev ha hb 17 _) (ev_pos (by omega) (ev_pos (by omega) ?_)))
          rw [Int.toNat_natCast]
          have z1 : (s.extract 0 (numAt (nb s) 4 2)).size = numAt (nb s) 4 2 := by rw [ByteArray.size_extract]; omega
          refine ev_pos (by rw [bs_size, headL_len, z1]; omega) (Ev.bind (of_ref_ev (by rw [ByteArray.size_append, bs_size, headL_len, z1]; omega)) ?_)
          rw [nb_append, nb_bs (headL_byt _ _ _ _), nb_extract, List.drop_zero]
          have hf := foldN_le (wsum (headL a b 17 ((numAt (nb s) 4 2 : Nat) : Int) ++ (nb s).take (numAt (nb s) 4 2)))
          unfold csumN
          by_cases h4 : foldN (wsum (headL a b 17 ((numAt (nb s) 4 2 : Nat) : Int) ++ (nb s).take (numAt (nb s) 4 2))) = 65535
          · rw [if_neg (by omega), h4]
            exact parseR_j0 (by omega) (by omega) (by omega)
          · rw [if_pos ⟨h3, h4⟩]
            have : (((65535 - foldN (wsum (headL a b 17 ((numAt (nb s) 4 2 : Nat) : Int) ++ (nb s).take (numAt (nb s) 4 2))) : Nat) : Int) != 0) = true := by
              rw [bne_iff_ne]
              omega
            rw [this]
            refine ev_succ ?_
            simp only [gangwayref07_Parse.j0, if_true]
            exact ev_now rfl
end Go.Proofs.YtbkgaplldfilnaaDoor.P
namespace Go.Proofs.YtbkgaplldfilnaaDoor.P
open Go Go.RowKit Go.Proofs.YtbkgaplldfilnaaDoorW.PrintWords Go.Proofs.YtbkgaplldfilnaaDoorW.PrintLast Go.Proofs.YtbkgaplldfilnaaDoorW.PrintMore Go.Proofs.YtbkgaplldfilnaaDoor.L

theorem racheck_eq {op : Int} {sm tm : Nat} (si ti : Int) (h1 : sm < 18446744073709551616) : gangwayref05_Check.f op (sm : Int) si (tm : Int) ti = some (if aok op sm tm = true then 0 else 51) := by
  unfold gangwayref05_Check.f
  rw [rown_eq h1]
  unfold aok
  by_cases e1 : op < 1
  · rw [if_pos e1, decide_eq_false (show ¬ op = 1 by omega), decide_eq_false (show ¬ op = 2 by omega)]
    rfl
  · rw [if_neg e1]
    by_cases e2 : op > 2
    · rw [if_pos e2, decide_eq_false (show ¬ op = 1 by omega), decide_eq_false (show ¬ op = 2 by omega)]
      rfl
    · rw [if_neg e2]
      have e0 : (decide (op = 1) || decide (op = 2)) = true := by
        simp
        omega
      rw [e0]
      by_cases e3 : ownN sm = true
      · by_cases e4 : tm < 281474976710656
        · rw [e3, decide_eq_true e4, Option.bind_some, if_pos rfl, if_pos (by omega)]
          rfl
        · rw [e3, decide_eq_false e4, Option.bind_some, if_pos rfl, if_neg (by omega)]
          rfl
      · rw [Bool.eq_false_iff.2 e3]
        rfl
theorem raparse_ev {s : ByteArray} (hs : s.size ≤ 1000000) : Ev (fun k => gangwayref05_Parse.f k s) (aparse s) := by
  unfold gangwayref05_Parse.f aparse
  by_cases h0 : s.size < 28
  · rw [if_pos h0]
    exact ev_pos (by omega) (ev_now rfl)
  · rw [if_neg h0]
    refine ev_neg (by omega) ?_
    obtain ⟨l1, l2, l3, l4, l5⟩ := anums s
    have nm : ∀ i j : Nat, j ≤ i + 8 → Ev (fun k => gangwayref01_Num.f k (s.extract i j)) ((numAt (nb s) i (j - i) : Nat) : Int) := by
      intro i j hij
      have h := num_ev (t := s.extract i j) (by rw [ByteArray.size_extract]; omega)
      rw [nb_extract, List.drop_take] at h
      exact h
    refine ev_pos (by decide) (ev_pos (by omega) (Ev.bind (nm 6 8 (by decide)) ?_))
    refine ev_pos (by decide) (ev_pos (by omega) (Ev.bind (nm 8 14 (by decide)) ?_))
    refine ev_pos (by decide) (ev_pos (by omega) (Ev.bind (nm 14 18 (by decide)) ?_))
    refine ev_pos (by decide) (ev_pos (by omega) (Ev.bind (nm 18 24 (by decide)) ?_))
    refine ev_pos (by decide) (ev_pos (by omega) (Ev.bind (nm 24 28 (by decide)) ?_))
    refine ev_pos (by decide) (ev_pos (by omega) ?_)
    show Ev (fun k => if (s.extract 0 6).toList = ([0, 1, 8, 0, 6, 4] : List UInt8) then (gangwayref05_Check.f (wrap64 ((numAt (nb s) 6 2 : Nat) : Int)) ((numAt (nb s) 8 6 : Nat) : Int) (((numAt (nb s) 14 4 : Nat) : Int) % 4294967296) ((numAt (nb s) 18 6 : Nat) : Int) (((numAt (nb s) 24 4 : Nat) : Int) % 4294967296)).bind fun t139 => (gangwayref05_Parse.j0 k (t139 != 0) (wrap64 ((numAt (nb s) 6 2 : Nat) : Int)) ((numAt (nb s) 8 6 : Nat) : Int) (((numAt (nb s) 14 4 : Nat) : Int) % 4294967296) ((numAt (nb s) 18 6 : Nat) : Int) (((numAt (nb s) 24 4 : Nat) : Int) % 4294967296)) else _) _
    generalize numAt (nb s) 6 2 = n1 at *
    generalize numAt (nb s) 8 6 = n2 at *
    generalize numAt (nb s) 14 4 = n3 at *
    generalize numAt (nb s) 18 6 = n4 at *
    generalize numAt (nb s) 24 4 = n5 at *
    have e1 : wrap64 (n1 : Int) = (n1 : Int) := w64 (by omega) (by omega)
    have e3 : (n3 : Int) % 4294967296 = (n3 : Int) := by omega
    have e5 : (n5 : Int) % 4294967296 = (n5 : Int) := by omega
    rw [e1, e3, e5, racheck_eq _ _ (by omega)]
    by_cases hh : ahas s = true
    · refine ev_pos (cut_six.2 hh) ?_
      by_cases hok : aok (n1 : Int) n2 n4 = true
      · rw [if_pos hok, if_pos ⟨hh, hok⟩]
        refine ev_some (ev_succ ?_)
        simp only [gangwayref05_Parse.j0]
        exact ev_neg (by decide) (ev_now rfl)
      · have hc : ¬ (ahas s = true ∧ aok (n1 : Int) n2 n4 = true) := fun h => hok h.2
        rw [if_neg hok, if_neg hc]
        refine ev_some (ev_succ ?_)
        simp only [gangwayref05_Parse.j0]
        exact ev_pos (by decide) (ev_now rfl)
    · refine ev_neg (fun h => hh (cut_six.1 h)) ?_
      have hc : ¬ (ahas s = true ∧ aok (n1 : Int) n2 n4 = true) := fun h => hh h.1
      rw [if_neg hc]
      refine ev_succ ?_
      simp only [gangwayref05_Parse.j0]
      exact ev_pos trivial (ev_now rfl)
end Go.Proofs.YtbkgaplldfilnaaDoor.P
namespace Go.Proofs.YtbkgaplldfilnaaDoor.P
set_option linter.unusedSimpArgs false
set_option linter.unusedVariables false
open Go Go.RowKit Go.Proofs.YtbkgaplldfilnaaDoorW.PrintWords Go.Proofs.YtbkgaplldfilnaaDoorW.PrintLast Go.Proofs.YtbkgaplldfilnaaDoorW.PrintMore Go.Proofs.YtbkgaplldfilnaaDoor.L

theorem rtake_j3 {s : ByteArray} (hs : s.size ≤ 1000000) (b : Bool) (v0 v1 : Int) (v2 v3 : Bool) (v4 v5 : Int) :
    Ev (fun k => gangwayref20_Take.j3 k b v0 v1 v2 v3 v4 v5 (((nb s).getD 9 0 : Nat) : Int) ((numAt (nb s) 12 4 : Nat) : Int) ((numAt (nb s) 16 4 : Nat) : Int) (s.extract 20 (numAt (nb s) 2 2)))
      (if b = true then tbad 5 else match derr s with | some n => tbad n | none => (0, ((numAt (nb s) 12 4 : Nat) : Int), (ud s).1, (ud s).2.1, (ud s).2.2.1, (ud s).2.2.2.1, 0, 0, 0, 0, 0)) := by
  refine ev_succ ?_
  simp only [gangwayref20_Take.j3]
  have hn := i_nums (nb_byt s)
  cases b
  · refine ev_neg (by decide) ?_
    rw [if_neg (by decide)]
    refine Ev.bind (parseR_ev hn.2.2.2.2.2.1 hn.2.2.2.2.2.2 (s := s.extract 20 (numAt (nb s) 2 2)) (by rw [ByteArray.size_extract]; omega)) ?_
    rw [show uparse (numAt (nb s) 12 4) (numAt (nb s) 16 4) (s.extract 20 (numAt (nb s) 2 2)) = ud s from rfl]
    unfold derr
    by_cases h1 : (nb s).getD 9 0 = 17
    · refine ev_pos (by omega) (ev_succ ?_)
      simp only [gangwayref20_Take.j4]
      by_cases h2 : (ud s).2.2.2.2 = 0
      · rw [if_neg (show ¬ ((nb s).getD 9 0 ≠ 17 ∨ (ud s).2.2.2.2 ≠ 0) from fun h => h.elim (fun h => h h1) (fun h => h h2))]
        refine ev_neg (by simp [h2]) ?_
        by_cases h3 : (ud s).2.1 = 4789
        · rw [if_neg (show ¬ ((ud s).2.1 ≠ 4789) from fun h => h h3)]
          exact ev_pos h3 (ev_now rfl)
        · rw [if_pos h3]
          exact ev_neg h3 (ev_now rfl)
      · rw [if_pos (Or.inr h2)]
        exact ev_pos (by simp [h2]) (ev_now rfl)
    · rw [if_pos (Or.inl h1)]
      refine ev_neg (by omega) (ev_succ ?_)
      simp only [gangwayref20_Take.j4]
      exact ev_pos trivial (ev_now rfl)
  · exact ev_pos rfl (ev_now rfl)
theorem rtake_ip {ip : Nat} {s : ByteArray} (hs : s.size ≤ 1000000) (dst src : Int) (has : Bool) (x : Int) (y : Bool) (z : Int) {ty : Int} (ht : ty ≠ 2054) :
    Ev (fun k => gangwayref20_Take.j1 k (ip : Int) false dst src has x y z ty s) (spacket ip s) := by
  refine ev_succ ?_
  simp only [gangwayref20_Take.j1]
  refine ev_neg (by decide) (ev_neg ht (Ev.bind (riparse_ev hs) ?_))
  unfold spacket perr
  by_cases hw : iwrong s = 0
  · have hp : iparse s = iread s := by unfold iparse; rw [if_pos hw]
    rw [hp]
    refine ev_pos rfl (ev_succ ?_)
    simp only [gangwayref20_Take.j2]
    by_cases ht : (nb s).getD 8 0 = 0
    · rw [if_pos (Or.inr ht)]
      exact ev_pos (by simp only [iread, ht]; rfl) (ev_now rfl)
    · rw [if_neg (show ¬ (iwrong s ≠ 0 ∨ (nb s).getD 8 0 = 0) from fun h => h.elim (fun h => h hw) ht)]
      refine ev_neg (by simp only [iread, beq_iff_eq]; omega) ?_
      by_cases hd : numAt (nb s) 16 4 = ip
      · refine ev_pos (by simp only [iread]; omega) ?_
        rw [if_neg (show ¬ (numAt (nb s) 16 4 ≠ ip) from fun h => h hd)]
        by_cases hm : numAt (nb s) 6 2 / 8192 % 2 = 1
        · rw [if_pos (Or.inl hm)]
          exact ev_pos (by simp [iread, hm]) (ev_eq (rtake_j3 hs true _ _ _ _ _ _) rfl)
        · refine ev_neg (by simp [iread, hm]) ?_
          by_cases hq : 0 < numAt (nb s) 6 2 % 8192
          · rw [if_pos (Or.inr hq)]
            refine ev_eq (rtake_j3 hs _ _ _ _ _ _ _) ?_
            exact if_pos (show decide ((iread s).2.2.2.2.1 > 0) = true from decide_eq_true (Int.natCast_pos.2 hq))
          · rw [if_neg (show ¬ (numAt (nb s) 6 2 / 8192 % 2 = 1 ∨ 0 < numAt (nb s) 6 2 % 8192) from fun h => h.elim hm hq)]
            refine ev_eq (rtake_j3 hs _ _ _ _ _ _ _) ?_
            refine (if_neg (show ¬ (decide ((iread s).2.2.2.2.1 > 0) = true) from fun h => hq (Int.natCast_pos.1 (of_decide_eq_true h)))).trans ?_
            cases derr s <;> rfl
      · refine ev_neg (by simp only [iread]; omega) ?_
        rw [if_pos hd]
        exact ev_now rfl
  · have hp : iparse s = ibad (iwrong s) := by unfold iparse; rw [if_neg hw]
    rw [hp, if_pos (Or.inl hw)]
    refine ev_neg hw (ev_succ ?_)
    simp only [gangwayref20_Take.j2]
    exact ev_pos trivial (ev_now rfl)
def rof (s : ByteArray) : Int × Int × Int × Int × Int × Bool :=
  if (aparse s).2.2.2.2.2 = 0 then ((aparse s).1, (aparse s).2.1, (aparse s).2.2.1, (aparse s).2.2.2.1, (aparse s).2.2.2.2.1, true) else (0, 0, 0, 0, 0, false)
theorem raof_ev {s : ByteArray} (hs : s.size ≤ 1000000) (d e : Int) (a : Bool) (b : Int) (c : Bool) (f : Int) :
    Ev (fun k => gangwayref05_Of.f k d e a b c f 2054 s) (rof s) := by
  unfold gangwayref05_Of.f rof
  refine Ev.bind (raparse_ev hs) (ev_pos rfl ?_)
  by_cases h : (aparse s).2.2.2.2.2 = 0
  · exact ev_pos h (ev_now (if_pos h).symm)
  · exact ev_neg h (ev_now (if_neg h).symm)
theorem rof_pos {s : ByteArray} (h : (aparse s).2.2.2.2.2 = 0) : rof s = ((aparse s).1, (aparse s).2.1, (aparse s).2.2.1, (aparse s).2.2.2.1, (aparse s).2.2.2.2.1, true) := if_pos h
theorem rof_neg {s : ByteArray} (h : ¬ (aparse s).2.2.2.2.2 = 0) : rof s = (0, 0, 0, 0, 0, false) := if_neg h
theorem rtake_j1 {ip : Nat} {s : ByteArray} (hs : s.size ≤ 1000000) (b : Bool) (dst src : Int) (has : Bool) (x : Int) (y : Bool) (z ty : Int) :
    Ev (fun k => gangwayref20_Take.j1 k (ip : Int) b dst src has x y z ty s) (if b = true then tbad 3 else if ty = 2054 then (if (aparse s).2.2.2.2.2 = 0 then (1, 0, 0, 0, false, (⟨#[]⟩ : ByteArray), (aparse s).1, (aparse s).2.1, (aparse s).2.2.1, (aparse s).2.2.2.1, (aparse s).2.2.2.2.1) else tbad 3) else spacket ip s) := by
  cases b
  · by_cases ht : ty = 2054
    · subst ht
      refine ev_succ ?_
      simp only [gangwayref20_Take.j1]
      refine ev_neg (show ¬ (false = true) by decide) (ev_pos trivial (Ev.bind (raof_ev hs _ _ _ _ _ _) ?_))
      by_cases h : (aparse s).2.2.2.2.2 = 0
      · rw [rof_pos h]
        exact ev_pos rfl (ev_now (by simp [h]))
      · rw [rof_neg h]
        exact ev_neg (by decide) (ev_now (by simp [h]; rfl))
    · exact ev_eq (rtake_ip hs dst src has x y z ht) (by simp [ht])
  · refine ev_succ ?_
    simp only [gangwayref20_Take.j1]
    exact ev_pos trivial (ev_now rfl)
theorem rtake_j0 {ip src : Nat} (h1 : src < 18446744073709551616) {s : ByteArray} (hs : s.size ≤ 1000000) (b : Bool) (dst : Int) (has : Bool) (x : Int) (y : Bool) (z ty : Int) :
    Ev (fun k => gangwayref20_Take.j0 k (ip : Int) b dst (src : Int) has x y z ty s) (if b = true then tbad 2 else if badFrame src has ty = true then tbad 3 else if ty = 2054 then (if (aparse s).2.2.2.2.2 = 0 then (1, 0, 0, 0, false, (⟨#[]⟩ : ByteArray), (aparse s).1, (aparse s).2.1, (aparse s).2.2.1, (aparse s).2.2.2.1, (aparse s).2.2.2.2.1) else tbad 3) else spacket ip s) := by
  refine ev_succ ?_
  simp only [gangwayref20_Take.j0]
  cases b
  · refine ev_neg (by decide) ?_
    rw [if_neg (by decide)]
    unfold badFrame
    cases has
    · refine ev_neg (by decide) ?_
      rw [rown_eq h1]
      cases ho : ownN src
      · exact ev_some (ev_neg (by decide) (ev_eq (rtake_j1 hs true _ _ _ _ _ _ _) (by simp)))
      · refine ev_some (ev_pos rfl ?_)
        by_cases h2 : ty = 2048
        · subst h2
          exact ev_pos rfl (ev_eq (rtake_j1 hs false _ _ _ _ _ _ _) (by simp))
        · refine ev_neg h2 (ev_eq (rtake_j1 hs _ _ _ _ _ _ _ _) ?_)
          by_cases h3 : ty = 2054
          · subst h3
            simp
          · simp [h2, h3]
    · exact ev_pos rfl (ev_eq (rtake_j1 hs true _ _ _ _ _ _ _) (by simp))
  · exact ev_pos rfl (ev_now rfl)
theorem rtake_ev {mac ip dst src : Nat} (h1 : src < 18446744073709551616) {s : ByteArray} (hs : s.size ≤ 1000000) (has : Bool) (x : Int) (y : Bool) (z ty : Int) :
    Ev (fun k => gangwayref20_Take.f k (mac : Int) (ip : Int) (dst : Int) (src : Int) has x y z ty s) (stake mac ip dst src has ty s) := by
  unfold gangwayref20_Take.f stake
  by_cases h : dst = mac
  · subst h
    refine ev_pos rfl (ev_eq (rtake_j0 h1 hs false _ has x y z ty) ?_)
    simp [notMine]
  · refine ev_neg (by omega) (ev_eq (rtake_j0 h1 hs _ _ has x y z ty) ?_)
    have e : ((dst : Int) != 281474976710655) = notMine mac dst := by
      unfold notMine
      by_cases h2 : dst = 281474976710655
      · subst h2; simp
      · have : ¬ ((dst : Int) = 281474976710655) := by omega
        simp [h, h2, this]
    rw [e]
end Go.Proofs.YtbkgaplldfilnaaDoor.P
