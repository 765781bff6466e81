/- AddrsNets: of two nets one is in the other one, or they have no address in common; an address is in a net just from its first to its last one: for every input. -/
import Derived.Test.YtgdjekigkimhnaaGreatDoorAddrsPlain
import Derived.OpenShut
import Derived.Test.YtgdjekigkimhnaaGreatDoorPx20
import Derived.Test.YtgdjekigkimhnaaGreatDoorPx21
import Derived.Test.YtgdjekigkimhnaaGreatDoorPx32
namespace Go.Proofs.YtgdjekigkimhnaaGreatDoor.Pure
set_option linter.unusedSimpArgs false
set_option linter.unusedVariables false
open Go Go.RowKit Go.Proofs.YtgdjekigkimhnaaGreatDoorW.PrintWords Go.Proofs.YtgdjekigkimhnaaGreatDoorW.PrintLast Go.Proofs.YtgdjekigkimhnaaGreatDoorW.PrintMore Go.Proofs.YtgdjekigkimhnaaGreatDoor.L Go.Proofs.YtgdjekigkimhnaaGreatDoor.P

theorem false_of {x : Bool} (h : ¬ x = true) : x = false := Bool.eq_false_iff.2 h
theorem gin_iff {p : Nat} {b : Int} {a : Nat} : gin p b a = true ↔ gnet p b = true ∧ p ≤ a ∧ a < p + 2 ^ nbits b := by
  unfold gin
  rw [Bool.and_eq_true, decide_eq_true_iff]
theorem nest {P i j m a : Nat} (hP : 0 < P) (h1 : P * i ≤ a) (h2 : a < P * i + P) (h3 : P * j ≤ a) (h4 : a < P * j + P * m) : P * j ≤ P * i ∧ P * i + P ≤ P * j + P * m := by
  have e1 : j < i + 1 := by
    refine Nat.lt_of_mul_lt_mul_left (a := P) ?_
    rw [Nat.mul_add, Nat.mul_one]
    omega
  have e2 : i < j + m := by
    refine Nat.lt_of_mul_lt_mul_left (a := P) ?_
    rw [Nat.mul_add]
    omega
  have f1 : P * j ≤ P * i := Nat.mul_le_mul_left P (by omega)
  have f2 : P * (i + 1) ≤ P * (j + m) := Nat.mul_le_mul_left P (by omega)
  rw [Nat.mul_add, Nat.mul_one, Nat.mul_add] at f2
  exact ⟨f1, f2⟩
theorem of_mod {x P : Nat} (h : x % P = 0) : x = P * (x / P) := by
  have := Nat.div_add_mod x P
  omega
/-- Two nets with an address in common: the smaller one is in the greater one. -/
theorem share {p q a : Nat} {b c : Int} (hp : gnet p b = true) (hq : gnet q c = true) (h1 : p ≤ a ∧ a < p + 2 ^ nbits b) (h2 : q ≤ a ∧ a < q + 2 ^ nbits c) (hle : nbits b ≤ nbits c) : gnear p b q c = true := by
  obtain ⟨_, _, m1⟩ := gnet_iff.1 hp
  obtain ⟨_, _, m2⟩ := gnet_iff.1 hq
  rw [gnear_iff]
  refine ⟨hp, hq, ?_⟩
  have eQ : 2 ^ nbits c = 2 ^ nbits b * 2 ^ (nbits c - nbits b) := by rw [← Nat.pow_add, show nbits b + (nbits c - nbits b) = nbits c by omega]
  have m3 : q % 2 ^ nbits b = 0 := by
    have := of_mod m2
    rw [eQ, Nat.mul_assoc] at this
    rw [this]
    exact Nat.mul_mod_right _ _
  have e1 := of_mod m1
  have e2 := of_mod m3
  have hP := pow_pos' (nbits b)
  rw [eQ] at h2 ⊢
  generalize 2 ^ nbits b = P at *
  generalize p / P = i at *
  generalize q / P = j at *
  subst e1
  subst e2
  exact nest hP h1.1 h1.2 h2.1 h2.2
theorem near_both {p q : Nat} {b c : Int} (hp : gnet p b = true) (hq : gnet q c = true) : (gnear p b q c = true ∧ gnear q c p b = true) ↔ (p = q ∧ b = c) := by
  constructor
  · rintro ⟨h1, h2⟩
    obtain ⟨_, _, a1, a2⟩ := gnear_iff.1 h1
    obtain ⟨_, _, b1, b2⟩ := gnear_iff.1 h2
    obtain ⟨c1, c2, _⟩ := gnet_iff.1 hp
    obtain ⟨d1, d2, _⟩ := gnet_iff.1 hq
    have e : 2 ^ nbits b = 2 ^ nbits c := by omega
    have en : nbits b = nbits c := (Nat.pow_right_inj (a := 2) (by decide)).1 e
    unfold nbits at en
    exact ⟨by omega, by omega⟩
  · rintro ⟨rfl, rfl⟩
    have : gnear p b p b = true := gnear_iff.2 ⟨hp, hp, Nat.le_refl _, Nat.le_refl _⟩
    exact ⟨this, this⟩
section
variable {p q a : Nat} {b c : Int} (hp : p < 4294967296) (hq : q < 4294967296) (ha : a < 4294967296)
include hp hq ha
theorem nets_j2 (gp : gnet p b = true) (gq : gnet q c = true) : Ev (fun k => gangwaylaw02_AddrsNets.j2 k (a : Int) false (p : Int) b (q : Int) c) true := by
  have hP := pow_pos' (nbits b)
  have hself : gnear p b p b = true := gnear_iff.2 ⟨gp, gp, Nat.le_refl _, Nat.le_refl _⟩
  have heq : (((p : Int) == (q : Int)) && (b == c)) = decide (p = q ∧ b = c) := by
    rw [beq_nat, Bool.eq_iff_iff, Bool.and_eq_true, decide_eq_true_iff, decide_eq_true_iff, beq_iff_eq]
  have hb := near_both gp gq
  have tail : ∀ {x : Bool}, gnear p b q c = true → x = gnear q c p b → (x == (((p : Int) == (q : Int)) && (b == c))) = true := by
    intro x h1 hx
    subst hx
    rw [heq, beq_iff_eq, Bool.eq_iff_iff, decide_eq_true_iff, ← hb]
    exact ⟨fun h => ⟨h1, h⟩, fun h => h.2⟩
  have tailf : ¬ gnear p b q c = true → (false == (((p : Int) == (q : Int)) && (b == c))) = true := by
    intro h1
    rw [heq, beq_iff_eq, eq_comm, decide_eq_false_iff_not, ← hb]
    exact fun h => h1 h.1
  refine ev_succ ?_
  simp only [gangwaylaw02_AddrsNets.j2]
  refine ev_neg (by decide) (Ev.bind (in_ev hp b ha) ?_)
  have rest : Ev (fun k => (addrs_Near.f k (p : Int) b (p : Int) b).bind fun t292 => (if t292 = true then ((addrs_Near.f k (p : Int) b (q : Int) c).bind fun t293 => (if t293 = true then ((addrs_Near.f k (q : Int) c (p : Int) b).bind fun t294 => (if (t294 == ((p : Int) == (q : Int) && (b == c))) = true then ((gangwaylaw02_fixed.f k).bind fun t295 => (some t295)) else (none))) else (if (false == ((p : Int) == (q : Int) && (b == c))) = true then ((gangwaylaw02_fixed.f k).bind fun t296 => (some t296)) else (none)))) else (none))) true := by
    have h0 := near_ev hp b hp b
    rw [hself] at h0
    refine Ev.bind h0 (ev_pos rfl (Ev.bind (near_ev hp b hq c) ?_))
    by_cases h1 : gnear p b q c = true
    · exact ev_pos h1 (Ev.bind (near_ev hq c hp b) (ev_pos (tail h1 rfl) (Ev.bind fixed_ev (ev_now rfl))))
    · exact ev_neg h1 (ev_pos (tailf h1) (Ev.bind fixed_ev (ev_now rfl)))
  by_cases hle : p ≤ a
  · refine ev_pos (by omega) (Ev.bind (last_ev hp b) (ev_pos ?_ rest))
    rw [beq_iff_eq, Bool.eq_iff_iff, gin_iff, decide_eq_true_iff]
    unfold glast
    rw [if_pos gp]
    constructor
    · rintro ⟨_, _, h⟩
      omega
    · intro h
      exact ⟨gp, hle, by omega⟩
  · refine ev_neg (by omega) (ev_pos ?_ rest)
    rw [beq_iff_eq]
    exact false_of (fun h => hle (gin_iff.1 h).2.1)
theorem nets_j1 (gp : gnet p b = true) (gq : gnet q c = true) : Ev (fun k => gangwaylaw02_AddrsNets.j1 k (a : Int) (gin p b a && gin q c a) (p : Int) b (q : Int) c) true := by
  have J2 := nets_j2 hp hq ha gp gq
  have hin : gnear p b q c = true → gin p b a = true → gin q c a = true := by
    intro h1 h2
    obtain ⟨_, _, a1, a2⟩ := gnear_iff.1 h1
    obtain ⟨_, b1, b2⟩ := gin_iff.1 h2
    exact gin_iff.2 ⟨gq, by omega, by omega⟩
  refine ev_succ ?_
  simp only [gangwaylaw02_AddrsNets.j1]
  by_cases h1 : gin p b a = true
  · by_cases h2 : gin q c a = true
    · rw [h1, h2]
      refine ev_pos rfl (Ev.bind (near_ev hp b hq c) ?_)
      by_cases hn : gnear p b q c = true
      · refine ev_pos hn (Ev.bind (near_ev hp b hq c) (ev_pos hn (Ev.bind (in_ev hp b ha) (ev_pos h1 (Ev.bind (in_ev hq c ha) ?_)))))
        rw [h2]
        exact J2
      · refine ev_neg hn (Ev.bind (near_ev hq c hp b) ?_)
        have hm : gnear q c p b = true := by
          obtain ⟨_, a1⟩ := gin_iff.1 h1
          obtain ⟨_, a2⟩ := gin_iff.1 h2
          rcases Nat.le_total (nbits b) (nbits c) with hle | hle
          · exact absurd (share gp gq a1 a2 hle) hn
          · exact share gq gp a2 a1 hle
        exact ev_pos hm (Ev.bind (near_ev hp b hq c) (ev_neg hn J2))
    · have hn : ¬ gnear p b q c = true := fun h => h2 (hin h h1)
      rw [h1, false_of h2]
      exact ev_neg (by decide) (Ev.bind (near_ev hp b hq c) (ev_neg hn J2))
  · rw [false_of h1, Bool.false_and]
    refine ev_neg (by decide) (Ev.bind (near_ev hp b hq c) ?_)
    by_cases hn : gnear p b q c = true
    · exact ev_pos hn (Ev.bind (in_ev hp b ha) (ev_neg h1 J2))
    · exact ev_neg hn J2
end
theorem AddrsNets (p b q c a : Int) (w0 : (Lit.int .u32 p).wf = true) (w1 : (Lit.int .i64 b).wf = true) (w2 : (Lit.int .u32 q).wf = true) (w3 : (Lit.int .i64 c).wf = true) (w4 : (Lit.int .u32 a).wf = true) : ∃ k, gangwaylaw02_AddrsNets.f k p b q c a = some true := by
  have hp := bounds_u32 w0
  have hq := bounds_u32 w2
  have ha := bounds_u32 w4
  obtain ⟨p, rfl⟩ := Int.eq_ofNat_of_zero_le hp.1
  obtain ⟨q, rfl⟩ := Int.eq_ofNat_of_zero_le hq.1
  obtain ⟨a, rfl⟩ := Int.eq_ofNat_of_zero_le ha.1
  have hp1 : p < 4294967296 := by omega
  have hq1 : q < 4294967296 := by omega
  have ha1 : a < 4294967296 := by omega
  refine Ev.rounds ?_
  have bad : ¬ (gnet p b = true ∧ gnet q c = true) → Ev (fun k => gangwaylaw02_AddrsNets.j0 k (a : Int) true (p : Int) b (q : Int) c) true := by
    intro h
    refine ev_succ ?_
    simp only [gangwaylaw02_AddrsNets.j0]
    have h1 : ¬ gnear p b q c = true := fun e => h ⟨(gnear_iff.1 e).1, (gnear_iff.1 e).2.1⟩
    have h2 : ¬ gnear q c p b = true := fun e => h ⟨(gnear_iff.1 e).2.1, (gnear_iff.1 e).1⟩
    exact ev_pos trivial (Ev.bind (near_ev hp1 b hq1 c) (ev_neg h1 (Ev.bind (near_ev hq1 c hp1 b) (ev_neg h2 (Ev.bind fixed_ev (ev_now rfl))))))
  unfold gangwaylaw02_AddrsNets.f
  refine Ev.bind (net_ev hp1 b) ?_
  by_cases gp : gnet p b = true
  · refine ev_pos gp (Ev.bind (net_ev hq1 c) ?_)
    by_cases gq : gnet q c = true
    · rw [gq]
      refine ev_succ ?_
      simp only [gangwaylaw02_AddrsNets.j0]
      refine ev_neg (by decide) (Ev.bind (in_ev hp1 b ha1) ?_)
      have J1 := nets_j1 hp1 hq1 ha1 gp gq
      by_cases h1 : gin p b a = true
      · rw [h1, Bool.true_and] at J1
        exact ev_pos h1 (Ev.bind (in_ev hq1 c ha1) J1)
      · rw [false_of h1, Bool.false_and] at J1
        exact ev_neg h1 J1
    · rw [false_of gq]
      exact bad (fun e => gq e.2)
  · exact ev_neg gp (bad (fun e => gp e.1))
end Go.Proofs.YtgdjekigkimhnaaGreatDoor.Pure
