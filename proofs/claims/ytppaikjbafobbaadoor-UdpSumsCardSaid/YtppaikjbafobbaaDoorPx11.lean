-- Written by wip/hprint.py (this session's program) through the kit's print program; hand contracts are marked 'by hand'.
import Derived.Test.YtppaikjbafobbaaDoorPx0
namespace Go.Proofs.YtppaikjbafobbaaDoor.P
open Go.RowKit Go.Proofs.YtppaikjbafobbaaDoorW.PrintWords Go.Proofs.YtppaikjbafobbaaDoorW.PrintLast Go.Proofs.YtppaikjbafobbaaDoorW.PrintMore
attribute [local go_sem] max2_int min2_int max_two min_two max_three min_three max_four min_four   -- for this text's walks alone
set_option linter.unusedVariables false
set_option linter.unusedSimpArgs false

/-! ### octets_part: function 32, by hand -/
def octets_part.f (a0 : ByteArray) (a1 : Int) (a2 : Int) : Option (ByteArray × Option Int) :=
  if 0 ≤ a1 then (if 0 ≤ a2 then (if a1 + a2 ≤ (a0.size : Int) then (if a0.size ≤ 1099511627776 then some (a0.extract a1.toNat (a1 + a2).toNat, none) else none) else none) else none) else none
set_option maxHeartbeats 4000000 in
theorem octets_part.calls (a0 : ByteArray) (a1 : Int) (a2 : Int) (r1 : ByteArray) (r2 : Option Int) (w : World) (h : octets_part.f a0 a1 a2 = some (r1, r2)) :
    Calls Tryd.prog 32 #[.string a0, .int .i64 a1, .int .i64 a2] w fun e w' => e = .returned (.tuple #[.string r1, errW r2]) ∧ Drawn0 w w' := by
  unfold octets_part.f at h
  by_cases h1 : 0 ≤ a1
  · rw [if_pos h1] at h
    by_cases h2 : 0 ≤ a2
    · rw [if_pos h2] at h
      by_cases h3 : a1 + a2 ≤ (a0.size : Int)
      · rw [if_pos h3] at h
        by_cases h4 : a0.size ≤ 1099511627776
        · rw [if_pos h4] at h
          obtain ⟨i, rfl⟩ := Int.eq_ofNat_of_zero_le h1
          obtain ⟨n, rfl⟩ := Int.eq_ofNat_of_zero_le h2
          obtain ⟨rfl, rfl⟩ : a0.extract i (i + n) = r1 ∧ none = r2 := by
            have h5 := Option.some.inj h
            rw [Int.toNat_natCast, show ((i : Int) + (n : Int)).toNat = i + n by omega] at h5
            exact Prod.mk.inj h5
          clear h
          have h5 : i + n ≤ a0.size := by omega
          clear h3
          have b3 : decide (a0.size < i) = false := decide_eq_false (by omega)
          have b4 : decide ((a0.size : Int) - (i : Int) < (n : Int)) = false := decide_eq_false (by omega)
          have b5 : ¬ a0.size < i := by omega
          have b6 : ¬ ((a0.size : Int) - (i : Int) < (n : Int)) := by omega
          have c1 := eq_true (show (0 : Int) ≤ (i : Int) by omega)
          have c2 := eq_true (show (i : Int) ≤ (i : Int) + (n : Int) by omega)
          have c3 := eq_true (show (i : Int) + (n : Int) ≤ (a0.size : Int) by omega)
          have c4 : ((i : Int) + (n : Int)).toNat = i + n := by omega
          go_enter Tryd.func32, Tryd.ntmps32
          go_wp2
          go_ret2
          exact ⟨rfl, ⟨0, rfl⟩⟩
        · rw [if_neg h4] at h
          cases h
      · rw [if_neg h3] at h
        cases h
    · rw [if_neg h2] at h
      cases h
  · rw [if_neg h1] at h
    cases h

/-! ### octets_number: function 33, by hand -/
def octets_number.f (a0 : Option Int) : Option (Int) := if a0 = none then some 0 else none
theorem octets_number.calls (a0 : Option Int) (r : Int) (w : World) (h : octets_number.f a0 = some r) :
    Calls Tryd.prog 33 #[errW a0] w fun e w' => e = .returned (.int .i64 r) ∧ Below w.heap.size w w' := by
  unfold octets_number.f at h
  by_cases h1 : a0 = none
  · rw [if_pos h1] at h
    cases h
    subst h1
    rw [errW_none]
    go_enter Tryd.func33, Tryd.ntmps33
    go_wp2
    go_ret
    exact ⟨rfl, (Below.refl _ _).alloc (Nat.le_refl _) _⟩
  · rw [if_neg h1] at h
    cases h

end Go.Proofs.YtppaikjbafobbaaDoor.P
