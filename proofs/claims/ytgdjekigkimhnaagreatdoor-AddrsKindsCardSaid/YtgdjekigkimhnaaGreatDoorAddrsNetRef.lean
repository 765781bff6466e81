/- The document's nets, and whose addresses are whose. -/
import Derived.Test.YtgdjekigkimhnaaGreatDoorPx23
import Derived.Test.YtgdjekigkimhnaaGreatDoorPx25
import Derived.Test.YtgdjekigkimhnaaGreatDoorPx28
import Derived.Test.YtgdjekigkimhnaaGreatDoorPx29
import Derived.Test.YtgdjekigkimhnaaGreatDoorAddrsPlain
namespace Go.Proofs.YtgdjekigkimhnaaGreatDoor.P
open Go Go.RowKit Go.Proofs.YtgdjekigkimhnaaGreatDoorW.PrintWords Go.Proofs.YtgdjekigkimhnaaGreatDoorW.PrintLast Go.Proofs.YtgdjekigkimhnaaGreatDoorW.PrintMore Go.Proofs.YtgdjekigkimhnaaGreatDoor.L

theorem size_l0 (d : Nat) : ∀ i x : Nat, i ≤ 32 → 32 - i = d → x * 2 ^ (32 - i) ≤ 4294967296 → Ev (fun k => gangwayref02_size.l0 k (x : Int) (i : Int)) ((x * 2 ^ (32 - i) : Nat) : Int) := by
  induction d with
  | zero =>
    intro i x hi hd hx
    have e : i = 32 := by omega
    subst e
    refine ev_succ ?_
    simp only [gangwayref02_size.l0]
    exact ev_neg (by omega) (ev_now (by simp))
  | succ d ih =>
    intro i x hi hd hx
    refine ev_succ ?_
    simp only [gangwayref02_size.l0]
    rw [w64 (x := (i : Int) + 1) (by omega) (by omega)]
    refine ev_pos (by omega) ?_
    have es : x * 2 ^ (32 - i) = 2 * x * 2 ^ (32 - (i + 1)) := by
      rw [show 32 - i = (32 - (i + 1)) + 1 by omega, Nat.pow_succ, Nat.mul_comm 2 x, Nat.mul_assoc, Nat.mul_comm 2]
    have hq := pow_pos' (32 - (i + 1))
    have hle : 2 * x ≤ 4294967296 := by
      have : 2 * x * 1 ≤ 2 * x * 2 ^ (32 - (i + 1)) := Nat.mul_le_mul_left _ hq
      omega
    have := ih (i + 1) (2 * x) (by omega) (by omega) (by omega)
    rw [u64w (x := 2 * (x : Int)) (by omega) (by omega), es]
    exact this
theorem size_ev (ip : Int) {b : Int} (h0 : 0 ≤ b) (h1 : b ≤ 32) : Ev (fun k => gangwayref02_size.f k ip b) ((2 ^ nbits b : Nat) : Int) := by
  unfold gangwayref02_size.f
  have e : b = ((b.toNat : Nat) : Int) := by omega
  have := size_l0 (32 - b.toNat) b.toNat 1 (by omega) rfl (by rw [Nat.one_mul]; exact pow_le (by omega))
  rw [Nat.one_mul, ← e] at this
  have en : nbits b = 32 - b.toNat := by unfold nbits; omega
  rw [en]
  exact this
theorem rnet_ev {ip : Nat} (h : ip < 4294967296) (b : Int) : Ev (fun k => gangwayref02_Net.f k (ip : Int) b) (gnet ip b) := by
  unfold gangwayref02_Net.f gnet
  by_cases h0 : 0 ≤ b
  · refine ev_pos h0 ?_
    by_cases h1 : b ≤ 32
    · have hq := pow_pos' (nbits b)
      refine ev_pos h1 (Ev.bind (size_ev (ip : Int) h0 h1) (ev_neg (by omega) (ev_now ?_)))
      rw [u64w (by omega) (by omega), Int.tmod_eq_emod_of_nonneg (Int.natCast_nonneg _), ← Int.natCast_emod]
      have := beq_nat (ip % 2 ^ nbits b) 0
      rw [show ((0 : Nat) : Int) = 0 from rfl] at this
      rw [this]
      exact decide_eq_decide.2 ⟨fun e => ⟨h0, h1, e⟩, fun e => e.2.2⟩
    · exact ev_neg h1 (ev_now (decide_eq_false (fun e => h1 e.2.1)).symm)
  · exact ev_neg h0 (ev_now (decide_eq_false (fun e => h0 e.1)).symm)
theorem rin_ev {ip : Nat} (h : ip < 4294967296) (b : Int) {a : Nat} (ha : a < 4294967296) : Ev (fun k => gangwayref02_In.f k (ip : Int) b (a : Int)) (gin ip b a) := by
  unfold gangwayref02_In.f gin
  refine Ev.bind (rnet_ev h b) ?_
  by_cases hg : gnet ip b = true
  · obtain ⟨h0, h1, hm⟩ := gnet_iff.1 hg
    rw [hg, Bool.true_and]
    refine ev_pos rfl ?_
    by_cases hle : ip ≤ a
    · refine ev_pos (by omega) (Ev.bind (size_ev (ip : Int) h0 h1) (ev_now ?_))
      rw [u64w (x := (a : Int)) (by omega) (by omega), u64w (x := (ip : Int)) (by omega) (by omega), u64w (by omega) (by omega)]
      exact decide_eq_decide.2 (by omega)
    · exact ev_neg (by omega) (ev_now (decide_eq_false (fun e => hle e.1)).symm)
  · have hf : gnet ip b = false := Bool.not_eq_true _ ▸ hg
    rw [hf]
    exact ev_neg (by decide) (ev_now rfl)
theorem rlast_ev {ip : Nat} (h : ip < 4294967296) (b : Int) : Ev (fun k => gangwayref02_Last.f k (ip : Int) b) ((glast ip b : Nat) : Int) := by
  unfold gangwayref02_Last.f glast
  refine Ev.bind (rnet_ev h b) ?_
  by_cases hg : gnet ip b = true
  · obtain ⟨h0, h1, hm⟩ := gnet_iff.1 hg
    have ht := top h (nbits_le h0) hm
    have hq := pow_pos' (nbits b)
    rw [hg, if_pos rfl]
    refine ev_pos rfl (Ev.bind (size_ev (ip : Int) h0 h1) (ev_now ?_))
    rw [u64w (x := (ip : Int)) (by omega) (by omega), u64w (x := (ip : Int) + _) (by omega) (by omega), u64w (by omega) (by omega)]
    omega
  · have hf : gnet ip b = false := Bool.not_eq_true _ ▸ hg
    rw [hf]
    exact ev_neg (by decide) (ev_now rfl)
theorem rnear_ev {ip : Nat} (h : ip < 4294967296) (b : Int) {jp : Nat} (hj : jp < 4294967296) (c : Int) : Ev (fun k => gangwayref02_Near.f k (ip : Int) b (jp : Int) c) (gnear ip b jp c) := by
  have hnf : ∀ {p : Prop} {x : Bool}, (x = true ↔ p) → ¬ p → x = false := fun hx hp => Bool.eq_false_iff.2 (fun e => hp (hx.1 e))
  unfold gangwayref02_Near.f
  refine Ev.bind (rnet_ev h b) ?_
  by_cases hg : gnet ip b = true
  · rw [hg]
    refine ev_pos rfl (Ev.bind (rnet_ev hj c) ?_)
    by_cases hc : gnet jp c = true
    · rw [hc]
      refine ev_pos rfl ?_
      by_cases hle : jp ≤ ip
      · refine ev_pos (by omega) (Ev.bind (rlast_ev h b) (Ev.bind (rlast_ev hj c) (ev_now ?_)))
        rw [Bool.eq_iff_iff, decide_eq_true_iff, gnear_iff]
        have h1 := pow_pos' (nbits b)
        have h2 := pow_pos' (nbits c)
        unfold glast
        rw [if_pos hg, if_pos hc]
        constructor
        · intro e
          exact ⟨hg, hc, hle, by omega⟩
        · rintro ⟨_, _, _, e⟩
          omega
      · exact ev_neg (by omega) (ev_now (hnf gnear_iff (fun e => hle e.2.2.1)).symm)
    · have hf : gnet jp c = false := Bool.not_eq_true _ ▸ hc
      rw [hf]
      exact ev_neg (by decide) (ev_now (hnf gnear_iff (fun e => hc e.2.1)).symm)
  · have hf : gnet ip b = false := Bool.not_eq_true _ ▸ hg
    rw [hf]
    exact ev_neg (by decide) (ev_now (hnf gnear_iff (fun e => hg e.1)).symm)
theorem rgroup_eq {m : Nat} (hm : m < 18446744073709551616) : gangwayref02_Group.f (m : Int) = some (ggroup m) := by
  unfold gangwayref02_Group.f ggroup
  congr 1
  rw [Int.tdiv_eq_ediv_of_nonneg (Int.natCast_nonneg _), u64w (by omega) (by omega), Int.tmod_eq_emod_of_nonneg (by omega)]
  rw [Bool.eq_iff_iff, beq_iff_eq, decide_eq_true_iff]
  omega
theorem rown_eq {m : Nat} (hm : m < 18446744073709551616) : gangwayref02_Own.f (m : Int) = some (gown m) := by
  unfold gangwayref02_Own.f gown
  rw [rgroup_eq hm]
  by_cases h0 : 0 < m
  · rw [if_pos (by omega)]
    by_cases h1 : m < 281474976710656
    · rw [if_pos (by omega), decide_eq_true ⟨h0, h1⟩]
      rfl
    · rw [if_neg (by omega), decide_eq_false (fun e => h1 e.2)]
      rfl
  · rw [if_neg (by omega), decide_eq_false (fun e => h0 e.1)]
    rfl
end Go.Proofs.YtgdjekigkimhnaaGreatDoor.P
