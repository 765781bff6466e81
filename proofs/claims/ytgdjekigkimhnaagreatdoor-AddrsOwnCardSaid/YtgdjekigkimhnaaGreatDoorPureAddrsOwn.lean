/- AddrsOwn: an address that a host may have is not many's, and has a text of which the second digit is even: for every input. -/
import Derived.Test.YtgdjekigkimhnaaGreatDoorAddrsPlain
import Derived.OpenShut
import Derived.Test.YtgdjekigkimhnaaGreatDoorPx3
import Derived.Test.YtgdjekigkimhnaaGreatDoorPx34
namespace Go.Proofs.YtgdjekigkimhnaaGreatDoor.Pure
set_option linter.unusedSimpArgs false
set_option linter.unusedVariables false
open Go Go.RowKit Go.Proofs.YtgdjekigkimhnaaGreatDoorW.PrintWords Go.Proofs.YtgdjekigkimhnaaGreatDoorW.PrintLast Go.Proofs.YtgdjekigkimhnaaGreatDoorW.PrintMore Go.Proofs.YtgdjekigkimhnaaGreatDoor.L Go.Proofs.YtgdjekigkimhnaaGreatDoor.P

theorem or_bit {m i : Nat} (hm : m < 18446744073709551616) (hi : i < 64) : Go.bits .or .u64 (m : Int) ((2 ^ i : Nat) : Int) = ((m ||| 2 ^ i : Nat) : Int) ∧ (m ||| 2 ^ i) < 18446744073709551616 ∧ (m ||| 2 ^ i) / 2 ^ i % 2 = 1 := by
  have h2 : 2 ^ i < 18446744073709551616 := Nat.pow_lt_pow_right (a := 2) (n := 64) (by decide) hi
  refine ⟨(bits_nat .u64 64 (by decide) wraps_u64 m (2 ^ i) hm h2).2, Nat.or_lt_two_pow (n := 64) hm h2, ?_⟩
  have : (m ||| 2 ^ i).testBit i = true := by
    rw [Nat.testBit_or, Nat.testBit_two_pow, decide_eq_true rfl, Bool.or_true]
  rw [Nat.testBit_eq_decide_div_mod_eq] at this
  exact of_decide_eq_true this
/-- The second digit, and whether it is odd. -/
theorem digit_odd : ∀ n, n < 16 → ((hexD n = 49 ∨ hexD n = 51 ∨ hexD n = 53 ∨ hexD n = 55 ∨ hexD n = 57 ∨ hexD n = 98 ∨ hexD n = 100 ∨ hexD n = 102) ↔ n % 2 = 1) := by decide
theorem own_j0 {m : Nat} (hm : m < 18446744073709551616) : Ev (fun k => gangwaylaw02_AddrsOwn.j0 k (m : Int) (ggroup m)) true := by
  have e48 : (281474976710656 : Nat) = 2 ^ 48 := by decide
  have e40 : (1099511627776 : Nat) = 2 ^ 40 := by decide
  obtain ⟨a1, a2, a3⟩ := or_bit (i := 48) hm (by decide)
  obtain ⟨b1, b2, b3⟩ := or_bit (i := 40) hm (by decide)
  rw [← e48] at a1 a2 a3
  rw [← e40] at b1 b2 b3
  have o1 : gown (m ||| 281474976710656) = false := by
    unfold gown
    rw [decide_eq_false (by omega)]
    rfl
  have o2 : gown (m ||| 1099511627776) = false := by
    unfold gown ggroup
    rw [b3]
    simp
  have k1 := own_eq a2
  have k2 := own_eq b2
  rw [o1] at k1
  rw [o2] at k2
  rw [show ((281474976710656 : Nat) : Int) = 281474976710656 from rfl] at a1
  rw [show ((1099511627776 : Nat) : Int) = 1099511627776 from rfl] at b1
  refine ev_succ ?_
  simp only [gangwaylaw02_AddrsOwn.j0]
  rw [a1, b1, k1, k2, group_eq hm, own_eq hm]
  refine ev_some (ev_pos (by simp) (ev_some ?_))
  by_cases ho : gown m = true
  · rw [ho]
    unfold gown at ho
    rw [Bool.and_eq_true, decide_eq_true_iff, Bool.not_eq_true'] at ho
    rw [ho.2]
    exact ev_pos rfl (ev_neg (by decide) (ev_pos (by omega) (ev_pos (by omega) (ev_some (ev_neg (by decide) (ev_some (ev_neg (by decide) (Ev.bind fixed_ev (ev_now rfl)))))))))
  · rw [show gown m = false from Bool.eq_false_iff.2 ho]
    exact ev_neg (by decide) (ev_some (ev_neg (by decide) (ev_some (ev_neg (by decide) (Ev.bind fixed_ev (ev_now rfl))))))
theorem AddrsOwn (m : Int) (w0 : (Lit.int .u64 m).wf = true) : ∃ k, gangwaylaw02_AddrsOwn.f k m = some true := by
  have hm := bounds_u64 w0
  obtain ⟨m, rfl⟩ := Int.eq_ofNat_of_zero_le hm.1
  have hm1 : m < 18446744073709551616 := by omega
  refine Ev.rounds ?_
  unfold gangwaylaw02_AddrsOwn.f
  refine Ev.bind (mac_ev m) ?_
  have hl : (bs (macN (be 6 m))).size = 17 := by rw [bs_size, macN_len, be_len]
  refine ev_pos (by rw [hl]; rfl) (ev_pos (by rw [hl]; decide) ?_)
  have hb : bt (bs (macN (be 6 m))) 1 = ((hexD (m / 1099511627776 % 16) : Nat) : Int) := by
    rw [bt_bs (macN_byt (be_byt 6 m))]
    obtain ⟨a, b, c, d, e, f, h⟩ := six_of (be_len 6 m)
    have ha : a = m / 256 ^ 5 % 256 := by
      have := be_top 5 m
      rw [h] at this
      exact (List.cons.inj this).1
    rw [h, macN_six]
    show ((hexD (a % 16) : Nat) : Int) = _
    rw [ha, show (256 : Nat) ^ 5 = 1099511627776 by decide, Nat.mod_mod_of_dvd _ (by decide)]
  rw [hb]
  have hj := own_j0 hm1
  have hd := digit_odd (m / 1099511627776 % 16) (Nat.mod_lt _ (by decide))
  have hg : ggroup m = decide (m / 1099511627776 % 16 % 2 = 1) := by
    unfold ggroup
    rw [Nat.mod_mod_of_dvd _ (by decide)]
  rw [hg] at hj
  generalize m / 1099511627776 % 16 = n at *
  generalize hexD n = x at *
  by_cases ho : n % 2 = 1
  · rw [decide_eq_true ho] at hj
    have hx := hd.2 ho
    by_cases h1 : x = 49
    · exact ev_pos (by omega) hj
    refine ev_neg (by omega) ?_
    by_cases h2 : x = 51
    · exact ev_pos (by omega) hj
    refine ev_neg (by omega) ?_
    by_cases h3 : x = 53
    · exact ev_pos (by omega) hj
    refine ev_neg (by omega) ?_
    by_cases h4 : x = 55
    · exact ev_pos (by omega) hj
    refine ev_neg (by omega) ?_
    by_cases h5 : x = 57
    · exact ev_pos (by omega) hj
    refine ev_neg (by omega) ?_
    by_cases h6 : x = 98
    · exact ev_pos (by omega) hj
    refine ev_neg (by omega) ?_
    by_cases h7 : x = 100
    · exact ev_pos (by omega) hj
    refine ev_neg (by omega) ?_
    have h8 : x = 102 := by omega
    subst h8
    exact hj
  · rw [decide_eq_false ho] at hj
    have hx := fun h => ho (hd.1 h)
    refine ev_neg (by omega) (ev_neg (by omega) (ev_neg (by omega) (ev_neg (by omega) (ev_neg (by omega) (ev_neg (by omega) (ev_neg (by omega) ?_))))))
    rw [show ((x : Int) == 102) = false by rw [beq_eq_false_iff_ne]; omega]
    exact hj
end Go.Proofs.YtgdjekigkimhnaaGreatDoor.Pure
