/- OctetsPut: any number in any many bytes, or that it does not go, is as the document says: for every input. -/
import Derived.Test.YtclffgkefbdcpaaDoorOctets
import Derived.OpenShut
import Derived.Test.YtclffgkefbdcpaaDoorPx1
import Derived.Test.YtclffgkefbdcpaaDoorPx3
import Derived.Test.YtclffgkefbdcpaaDoorPx8
namespace Go.Proofs.YtclffgkefbdcpaaDoor.Pure
set_option linter.unusedSimpArgs false
set_option linter.unusedVariables false
open Go Go.RowKit Go.Proofs.YtclffgkefbdcpaaDoorW.PrintWords Go.Proofs.YtclffgkefbdcpaaDoorW.PrintLast Go.Proofs.YtclffgkefbdcpaaDoorW.PrintMore Go.Proofs.YtclffgkefbdcpaaDoor.L Go.Proofs.YtclffgkefbdcpaaDoor.P

/-- Does a number go in so many bytes? -/
def goes (v : Nat) (n : Int) : Bool := decide (1 ≤ n) && decide (n ≤ 8) && decide (v < 256 ^ n.toNat)
def gput (v : Nat) (n : Int) : ByteArray × Int := if goes v n = true then (bs (be n.toNat v), 0) else ((⟨#[]⟩ : ByteArray), 1)
theorem goes_iff {v : Nat} {n : Int} : goes v n = true ↔ 1 ≤ n ∧ n ≤ 8 ∧ v < 256 ^ n.toNat := by
  unfold goes
  simp [and_assoc]
theorem gput_ev {v : Nat} (hv : v < 18446744073709551616) (n : Int) : Ev (fun k => octets_Put.f k (v : Int) n) (gput v n) := by
  unfold gput
  by_cases h : goes v n = true
  · obtain ⟨h1, h8, hlt⟩ := goes_iff.1 h
    obtain ⟨m, rfl⟩ := Int.eq_ofNat_of_zero_le (show 0 ≤ n by omega)
    rw [if_pos h, Int.toNat_natCast]
    exact put_ev (by omega) (by omega) (by simpa using hlt)
  · rw [if_neg h]
    refine put_bad_ev ?_
    by_cases h1 : n < 1
    · exact Or.inl h1
    · by_cases h8 : 8 < n
      · exact Or.inr (Or.inl h8)
      · refine Or.inr (Or.inr ?_)
        have hlt : 256 ^ n.toNat ≤ v := by
          rcases Nat.lt_or_ge v (256 ^ n.toNat) with h' | h'
          · exact absurd (goes_iff.2 ⟨by omega, by omega, h'⟩) h
          · exact h'
        refine ⟨?_, hlt⟩
        by_cases e : n = 8
        · subst e
          have : (256 : Nat) ^ (8 : Int).toNat = 18446744073709551616 := by decide
          omega
        · omega
theorem rput_l0 (v n : Nat) (hv : v < 18446744073709551616) (hn : n ≤ 8) (d : Nat) : ∀ i : Nat, i ≤ n → n - i = d →
    Ev (fun k => gangwayref01_Put.l0 k (v : Int) (n : Int) ((256 ^ i - 1 : Nat) : Int) (i : Int)) (if v < 256 ^ n then (bs (be n v), 0) else ((⟨#[]⟩ : ByteArray), 1)) := by
  induction d with
  | zero =>
    intro i hi hd
    obtain rfl : i = n := by omega
    have hp : 0 < 256 ^ i := Nat.pow_pos (by decide)
    refine ev_succ ?_
    simp only [gangwayref01_Put.l0]
    refine ev_neg (by omega) ?_
    by_cases h : v < 256 ^ i
    · rw [if_pos h]
      exact ev_neg (by omega) (Ev.bind (bytes_ev (by omega) hv) (ev_now rfl))
    · rw [if_neg h]
      exact ev_pos (by omega) (ev_now rfl)
  | succ d ih =>
    intro i hi hd
    have hp : 0 < 256 ^ i := Nat.pow_pos (by decide)
    have h7 : 256 ^ i ≤ 256 ^ 7 := Nat.pow_le_pow_right (by decide) (by omega)
    have e7 : (256 : Nat) ^ 7 = 72057594037927936 := by decide
    have e1 : (256 : Nat) ^ (i + 1) = 256 ^ i * 256 := Nat.pow_succ ..
    refine Ev.step (f := fun k => gangwayref01_Put.l0 k (v : Int) (n : Int) ((256 ^ (i + 1) - 1 : Nat) : Int) ((i + 1 : Nat) : Int)) (fun k => ?_) (ih (i + 1) (by omega) (by omega))
    simp only [gangwayref01_Put.l0]
    rw [if_pos (by omega), w64 (x := (i : Int) + 1) (by omega) (by omega)]
    have e2 : IntKind.u64.wrap (IntKind.u64.wrap (((256 ^ i - 1 : Nat) : Int) * 256) + 255) = ((256 ^ (i + 1) - 1 : Nat) : Int) := by
      rw [u64w (x := ((256 ^ i - 1 : Nat) : Int) * 256) (by omega) (by omega), u64w (by omega) (by omega)]
      omega
    rw [e2]
    rfl
theorem rput_ev {v : Nat} (hv : v < 18446744073709551616) (n : Int) : Ev (fun k => gangwayref01_Put.f k (v : Int) n) (gput v n) := by
  unfold gangwayref01_Put.f gput
  by_cases h1 : n < 1
  · refine ev_pos h1 (ev_succ ?_)
    simp only [gangwayref01_Put.j0]
    rw [if_neg (fun h => by have := goes_iff.1 h; omega)]
    exact ev_pos trivial (ev_now rfl)
  · refine ev_neg h1 (ev_succ ?_)
    simp only [gangwayref01_Put.j0]
    by_cases h8 : n > 8
    · rw [if_neg (fun h => by have := goes_iff.1 h; omega)]
      exact ev_pos (decide_eq_true h8) (ev_now rfl)
    · refine ev_neg (by simp; omega) ?_
      obtain ⟨m, rfl⟩ := Int.eq_ofNat_of_zero_le (show 0 ≤ n by omega)
      have := rput_l0 v m hv (by omega) m 0 (Nat.zero_le _) rfl
      have e : (if goes v (m : Int) = true then (bs (be (m : Int).toNat v), (0 : Int)) else ((⟨#[]⟩ : ByteArray), 1)) = if v < 256 ^ m then (bs (be m v), 0) else ((⟨#[]⟩ : ByteArray), 1) := by
        by_cases h : v < 256 ^ m
        · rw [if_pos h, if_pos (goes_iff.2 ⟨by omega, by omega, by rw [Int.toNat_natCast]; exact h⟩), Int.toNat_natCast]
        · rw [if_neg h, if_neg (fun h' => h (by have := (goes_iff.1 h').2.2; rw [Int.toNat_natCast] at this; exact this))]
      rw [e]
      exact this
theorem OctetsPut (v n : Int) (w0 : (Lit.int .u64 v).wf = true) (w1 : (Lit.int .i64 n).wf = true) : ∃ k, gangwaylaw01_OctetsPut.f k v n = some true := by
  have b1 := bounds_u64 w0
  obtain ⟨v, rfl⟩ := Int.eq_ofNat_of_zero_le b1.1
  refine Ev.rounds ?_
  unfold gangwaylaw01_OctetsPut.f
  refine Ev.bind (gput_ev (by omega) n) (Ev.bind (rput_ev (by omega) n) (Ev.bind octets_fixed_ev (ev_pos rfl (ev_pos rfl (ev_now ?_)))))
  simp
end Go.Proofs.YtclffgkefbdcpaaDoor.Pure
