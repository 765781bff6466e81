/- AddrsHalves: a net is its two halves, and nothing else, as long as there are bits left: for every input. -/
import Derived.Test.YtgdjekigkimhnaaGreatDoorAddrsPlain
import Derived.OpenShut
import Derived.Test.YtgdjekigkimhnaaGreatDoorPx18
import Derived.Test.YtgdjekigkimhnaaGreatDoorPx19
import Derived.Test.YtgdjekigkimhnaaGreatDoorPx20
import Derived.Test.YtgdjekigkimhnaaGreatDoorPx21
import Derived.Test.YtgdjekigkimhnaaGreatDoorPx33
namespace Go.Proofs.YtgdjekigkimhnaaGreatDoor.Pure
set_option linter.unusedSimpArgs false
set_option linter.unusedVariables false
open Go Go.RowKit Go.Proofs.YtgdjekigkimhnaaGreatDoorW.PrintWords Go.Proofs.YtgdjekigkimhnaaGreatDoorW.PrintLast Go.Proofs.YtgdjekigkimhnaaGreatDoorW.PrintMore Go.Proofs.YtgdjekigkimhnaaGreatDoor.L Go.Proofs.YtgdjekigkimhnaaGreatDoor.P

theorem false_of {x : Bool} (h : ¬ x = true) : x = false := Bool.eq_false_iff.2 h
theorem gin_iff {p : Nat} {b : Int} {a : Nat} : gin p b a = true ↔ gnet p b = true ∧ p ≤ a ∧ a < p + 2 ^ nbits b := by
  unfold gin
  rw [Bool.and_eq_true, decide_eq_true_iff]
theorem gin_eq {p : Nat} {b : Int} {a : Nat} (h : gnet p b = true) : gin p b a = decide (p ≤ a ∧ a < p + 2 ^ nbits b) := by
  unfold gin
  rw [h, Bool.true_and]
theorem shl_bit {m : Nat} (hm : m < 32) : shl .u32 1 (m : Int) = ((2 ^ m : Nat) : Int) := by
  unfold shl
  have e : min (m : Int).toNat (IntKind.bits .u32) = m := by
    have h : IntKind.bits .u32 = 32 := rfl
    rw [h]
    omega
  rw [e, Int.one_mul, show (2 : Int) ^ m = ((2 ^ m : Nat) : Int) by norm_cast]
  have h2 : 2 ^ m < 4294967296 := Nat.pow_lt_pow_right (a := 2) (n := 32) (by decide) hm
  rw [IntKind.wrap_u32]
  exact Int.emod_eq_of_lt (Int.natCast_nonneg _) (by show ((2 ^ m : Nat) : Int) < ((4294967296 : Nat) : Int); exact Int.ofNat_lt.2 h2)
theorem or_half {p m : Nat} (hp : p < 4294967296) (hm : m < 32) (h : p % 2 ^ (m + 1) = 0) : Go.bits .or .u32 (p : Int) ((2 ^ m : Nat) : Int) = ((p + 2 ^ m : Nat) : Int) := by
  have e : (2 : Int) ^ 32 = 4294967296 := by decide
  have h2 : 2 ^ m < 4294967296 := Nat.pow_lt_pow_right (a := 2) (n := 32) (by decide) hm
  have hx : (p : Int) % (2 : Int) ^ (m + 1) = 0 := by
    have : ((p % 2 ^ (m + 1) : Nat) : Int) = 0 := by rw [h]; rfl
    rw [Int.natCast_emod] at this
    exact_mod_cast this
  have hy : ((2 ^ m : Nat) : Int) < (2 : Int) ^ (m + 1) := by
    have : 2 ^ m < 2 ^ (m + 1) := Nat.pow_lt_pow_right (by decide) (by omega)
    exact_mod_cast this
  rw [Go.bits_join .u32 32 (by decide) wraps_u32 (m + 1) (p : Int) ((2 ^ m : Nat) : Int) (by omega) hx (by rw [e]; omega) (by omega) hy (by rw [e]; omega)]
  omega
theorem halves_j0 {p a : Nat} {b : Int} (hp : p < 4294967296) (ha : a < 4294967296) (gp : gnet p b = true) (hb : b ≠ 32) : Ev (fun k => gangwaylaw02_AddrsHalves.j0 k (a : Int) false (p : Int) b) true := by
  obtain ⟨b0, b1, hm0⟩ := gnet_iff.1 gp
  obtain ⟨m, hm, hn⟩ : ∃ m, m < 32 ∧ nbits b = m + 1 := ⟨(31 - b).toNat, by omega, by unfold nbits; omega⟩
  have hn1 : nbits (b + 1) = m := by
    unfold nbits at hn ⊢
    omega
  have eb : (31 : Int) - b = (m : Int) := by
    unfold nbits at hn
    omega
  rw [hn] at hm0
  have es : 2 ^ (m + 1) = 2 * 2 ^ m := by rw [Nat.pow_succ]; omega
  have hR := pow_pos' m
  have ht := top hp (show m + 1 ≤ 32 by omega) hm0
  have hmod : p % 2 ^ m = 0 := by
    have := Nat.div_add_mod p (2 ^ (m + 1))
    rw [hm0, Nat.pow_succ, Nat.mul_assoc, Nat.add_zero] at this
    rw [← this]
    exact Nat.mul_mod_right _ _
  have gl : gnet p (b + 1) = true := gnet_iff.2 ⟨by omega, by omega, by rw [hn1]; exact hmod⟩
  have gh : gnet (p + 2 ^ m) (b + 1) = true := gnet_iff.2 ⟨by omega, by omega, by rw [hn1, Nat.add_mod_right]; exact hmod⟩
  have hh : p + 2 ^ m < 4294967296 := by omega
  have l1 : glast (p + 2 ^ m) (b + 1) = glast p b := by
    unfold glast
    rw [if_pos gh, if_pos gp, hn, hn1]
    omega
  have l2 : glast p (b + 1) + 1 = p + 2 ^ m := by
    unfold glast
    rw [if_pos gl, hn1]
    omega
  have n1 : gnear p (b + 1) p b = true := gnear_iff.2 ⟨gl, gp, Nat.le_refl _, by rw [hn, hn1]; omega⟩
  have n2 : ¬ gnear p b p (b + 1) = true := fun h => by
    have := (gnear_iff.1 h).2.2.2
    rw [hn, hn1] at this
    omega
  have i0 := gin_eq (a := a) gp
  have i1 := gin_eq (a := a) gl
  have i2 := gin_eq (a := a) gh
  rw [hn, es] at i0
  rw [hn1] at i1 i2
  refine ev_succ ?_
  simp only [gangwaylaw02_AddrsHalves.j0]
  rw [w64 (x := 31 - b) (by omega) (by omega), w64 (x := b + 1) (by omega) (by omega), eb, shl_bit hm, or_half hp hm hm0]
  have rest : ∀ x : Bool, x = gin p b a → Ev (fun k => (addrs_In.f k (p : Int) b (a : Int)).bind fun t311 => (if (t311 == x) = true then ((addrs_Last.f k ((p + 2 ^ m : Nat) : Int) (b + 1)).bind fun t312 => ((addrs_Last.f k (p : Int) b).bind fun t313 => (if t312 = t313 then ((addrs_Last.f k (p : Int) (b + 1)).bind fun t314 => (if ((t314 + 1) % 4294967296) = ((p + 2 ^ m : Nat) : Int) then ((addrs_Near.f k (p : Int) (b + 1) (p : Int) b).bind fun t315 => (if t315 = true then ((addrs_Near.f k (p : Int) b (p : Int) (b + 1)).bind fun t316 => (if t316 = true then (none) else ((gangwaylaw02_fixed.f k).bind fun t317 => (some t317)))) else (none))) else (none))) else (none)))) else (none))) true := by
    intro x hx
    refine Ev.bind (in_ev hp b ha) (ev_pos (by rw [hx]; simp) (Ev.bind (last_ev hh (b + 1)) (Ev.bind (last_ev hp b) (ev_pos (by rw [l1]) (Ev.bind (last_ev hp (b + 1)) (ev_pos (by omega) (Ev.bind (near_ev hp (b + 1) hp b) (ev_pos n1 (Ev.bind (near_ev hp b hp (b + 1)) (ev_neg n2 (Ev.bind fixed_ev (ev_now rfl))))))))))))
  refine ev_neg (by decide) (ev_pos (by omega) (Ev.bind (in_ev hp (b + 1) ha) (Ev.bind (in_ev hh (b + 1) ha) (Ev.bind (net_ev hp (b + 1)) (ev_pos gl (Ev.bind (net_ev hh (b + 1)) (ev_pos gh ?_)))))))
  by_cases h1 : p ≤ a ∧ a < p + 2 ^ m
  · rw [decide_eq_true h1] at i1
    rw [decide_eq_false (by omega)] at i2
    rw [decide_eq_true (by omega)] at i0
    refine ev_pos i1 (ev_neg (by rw [i2]; decide) ?_)
    exact rest true i0.symm
  · rw [decide_eq_false h1] at i1
    refine ev_neg (by rw [i1]; decide) ?_
    exact rest (gin (p + 2 ^ m) (b + 1) a) (by
      rw [i0, i2]
      exact decide_eq_decide.2 (by omega))
theorem AddrsHalves (p b a : Int) (w0 : (Lit.int .u32 p).wf = true) (w1 : (Lit.int .i64 b).wf = true) (w2 : (Lit.int .u32 a).wf = true) : ∃ k, gangwaylaw02_AddrsHalves.f k p b a = some true := by
  have hp := bounds_u32 w0
  have ha := bounds_u32 w2
  obtain ⟨p, rfl⟩ := Int.eq_ofNat_of_zero_le hp.1
  obtain ⟨a, rfl⟩ := Int.eq_ofNat_of_zero_le ha.1
  have hp1 : p < 4294967296 := by omega
  have ha1 : a < 4294967296 := by omega
  refine Ev.rounds ?_
  have easy : Ev (fun k => gangwaylaw02_AddrsHalves.j0 k (a : Int) true (p : Int) b) true := by
    refine ev_succ ?_
    simp only [gangwaylaw02_AddrsHalves.j0]
    exact ev_pos trivial (Ev.bind fixed_ev (ev_now rfl))
  unfold gangwaylaw02_AddrsHalves.f
  refine Ev.bind (net_ev hp1 b) ?_
  by_cases gp : gnet p b = true
  · refine ev_pos gp ?_
    by_cases hb : b = 32
    · subst hb
      exact easy
    · rw [beq_eq_false_iff_ne.2 hb]
      exact halves_j0 hp1 ha1 gp hb
  · exact ev_neg gp easy
end Go.Proofs.YtgdjekigkimhnaaGreatDoor.Pure
