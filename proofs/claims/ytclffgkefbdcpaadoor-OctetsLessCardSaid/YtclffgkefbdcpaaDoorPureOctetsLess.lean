/- OctetsLess: a number of more bytes is the same behind bytes 0; what does not go in fewer bytes is refused: for every input. -/
import Derived.Test.YtclffgkefbdcpaaDoorOctets
import Derived.OpenShut
import Derived.Test.YtclffgkefbdcpaaDoorPx15
namespace Go.Proofs.YtclffgkefbdcpaaDoor.Pure
set_option linter.unusedSimpArgs false
set_option linter.unusedVariables false
open Go Go.RowKit Go.Proofs.YtclffgkefbdcpaaDoorW.PrintWords Go.Proofs.YtclffgkefbdcpaaDoorW.PrintLast Go.Proofs.YtclffgkefbdcpaaDoorW.PrintMore Go.Proofs.YtclffgkefbdcpaaDoor.L Go.Proofs.YtclffgkefbdcpaaDoor.P

theorem OctetsLess (v n : Int) (w0 : (Lit.int .u64 v).wf = true) (w1 : (Lit.int .i64 n).wf = true) : ∃ k, gangwaylaw01_OctetsLess.f k v n = some true := by
  have b1 := bounds_u64 w0
  obtain ⟨v, rfl⟩ := Int.eq_ofNat_of_zero_le b1.1
  refine Ev.rounds ?_
  unfold gangwaylaw01_OctetsLess.f
  rw [mask16]
  have h0 : 0 ≤ n % 65536 := Int.emod_nonneg _ (by decide)
  have e0 : (n % 65536).tmod 7 = n % 65536 % 7 := Int.tmod_eq_emod_of_nonneg h0
  rw [e0, w64 (by omega) (by omega)]
  obtain ⟨k, hk, k1, k7⟩ : ∃ k : Nat, 1 + n % 65536 % 7 = (k : Int) ∧ 1 ≤ k ∧ k ≤ 7 := ⟨(1 + n % 65536 % 7).toNat, by omega, by omega, by omega⟩
  rw [hk]
  refine ev_succ ?_
  simp only [gangwaylaw01_OctetsLess.j0]
  rw [w64 (x := (k : Int) + 1) (by omega) (by omega), w64 (x := 8 * (k : Int)) (by omega) (by omega), shr_nat v k (by omega)]
  have kc : (k : Int) + 1 = ((k + 1 : Nat) : Int) := rfl
  have hp : 0 < 256 ^ k := Nat.pow_pos (by decide)
  by_cases h : v < 256 ^ k
  · have hd : v / 256 ^ k = 0 := Nat.div_eq_of_lt h
    have h2 : v < 256 ^ (k + 1) := by
      rw [Nat.pow_succ]
      omega
    rw [hd, kc]
    refine Ev.bind (put_ev k1 (by omega) h) (Ev.bind (put_ev (by omega) (by omega) h2) (ev_pos (by omega) ?_))
    refine ev_succ ?_
    simp only [gangwaylaw01_OctetsLess.j1]
    refine ev_neg (by decide) (ev_pos trivial (ev_pos trivial (ev_pos (by rw [bs_size, be_len]; omega) (ev_pos ?_ (Ev.bind octets_fixed_ev (ev_now rfl))))))
    have e : bs (be (k + 1) v) = (⟨#[0]⟩ : ByteArray) ++ bs (be k v) := by
      rw [be_top, hd]
      exact bs_append [0] (be k v)
    rw [e]
  · have hd : 0 < v / 256 ^ k := Nat.div_pos (Nat.not_lt.1 h) hp
    have bad := put_bad_ev (v := v) (n := (k : Int)) (Or.inr (Or.inr ⟨by omega, by rw [Int.toNat_natCast]; omega⟩))
    have hz : (((v / 256 ^ k : Nat) : Int) == 0) = false := beq_eq_false_iff_ne.mpr (by omega)
    rw [hz]
    refine Ev.bind bad ?_
    have rest : ∀ (t : ByteArray) (c : Int), Ev (fun k_ => if 0 ≤ 8 * (k : Int) then gangwaylaw01_OctetsLess.j1 k_ (⟨#[]⟩ : ByteArray) 1 t c false else none) true := by
      intro t c
      refine ev_pos (by omega) (ev_succ ?_)
      simp only [gangwaylaw01_OctetsLess.j1]
      exact ev_neg (by decide) (ev_neg (by decide) (ev_pos (by decide +kernel) (Ev.bind octets_fixed_ev (ev_now rfl))))
    by_cases h2 : k + 1 < 8 ∧ 256 ^ (k + 1) ≤ v
    · exact Ev.bind (put_bad_ev (v := v) (n := (k : Int) + 1) (Or.inr (Or.inr ⟨by omega, by rw [show ((k : Int) + 1).toNat = k + 1 by omega]; exact h2.2⟩))) (rest _ _)
    · have h3 : v < 256 ^ (k + 1) := by
        by_cases e : k = 7
        · subst e
          have : (256 : Nat) ^ (7 + 1) = 18446744073709551616 := by decide
          omega
        · omega
      rw [kc]
      exact Ev.bind (put_ev (by omega) (by omega) h3) (rest _ _)
end Go.Proofs.YtclffgkefbdcpaaDoor.Pure
