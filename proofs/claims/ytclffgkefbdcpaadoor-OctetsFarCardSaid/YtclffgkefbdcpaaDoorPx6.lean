-- Written by wip/hprint.py (this session's program) through the kit's print program; hand contracts are marked 'by hand'.
import Derived.Test.YtclffgkefbdcpaaDoorPx0
namespace Go.Proofs.YtclffgkefbdcpaaDoor.P
open Go.RowKit Go.Proofs.YtclffgkefbdcpaaDoorW.PrintWords Go.Proofs.YtclffgkefbdcpaaDoorW.PrintLast Go.Proofs.YtclffgkefbdcpaaDoorW.PrintMore
attribute [local go_sem] max2_int min2_int max_two min_two max_three min_three max_four min_four   -- for this text's walks alone
set_option linter.unusedVariables false
set_option linter.unusedSimpArgs false

/-! ### octets_part: function 24, by hand -/
def octets_part.f (a0 : ByteArray) (a1 : Int) (a2 : Int) : Option (ByteArray × Option Int) :=
  if a0.size ≤ 1099511627776 then (
  if a1 < 0 then some (⟨#[]⟩, some (a1 * 64 + 1)) else if a2 < 0 then some (⟨#[]⟩, some (a1 * 64 + 1)) else
  if (a0.size : Int) < a1 then some (⟨#[]⟩, some (a1 * 64 + 10)) else if (a0.size : Int) - a1 < a2 then some (⟨#[]⟩, some (a1 * 64 + 10)) else
  some (a0.extract a1.toNat (a1 + a2).toNat, none)) else none
theorem errW_at (p c : Int) (h0 : 0 ≤ c) (h1 : c < 64) : errW (some (p * 64 + c)) = .iface 54 (.agg #[.int .i64 p, .iface 23 (.int .i64 c)]) := by
  rw [errW_some, show (p * 64 + c) / 64 = p by omega, show (p * 64 + c) % 64 = c by omega]
set_option maxHeartbeats 4000000 in
theorem octets_part.calls (a0 : ByteArray) (a1 : Int) (a2 : Int) (r1 : ByteArray) (r2 : Option Int) (w : World) (h : octets_part.f a0 a1 a2 = some (r1, r2)) :
    Calls Tryd.prog 24 #[.string a0, .int .i64 a1, .int .i64 a2] w fun e w' => e = .returned (.tuple #[.string r1, errW r2]) ∧ Drawn0 w w' := by
  unfold octets_part.f at h
  by_cases h5 : a0.size ≤ 1099511627776
  · rw [if_pos h5] at h
    by_cases h1 : a1 < 0
    · rw [if_pos h1] at h
      obtain ⟨rfl, rfl⟩ := Prod.mk.inj (Option.some.inj h)
      rw [errW_at _ _ (by decide) (by decide)]
      clear h
      go_enter Tryd.func24, Tryd.ntmps24
      go_wp2
      go_ret2
      exact ⟨rfl, ⟨0, rfl⟩⟩
    · rw [if_neg h1] at h
      by_cases h2 : a2 < 0
      · rw [if_pos h2] at h
        obtain ⟨rfl, rfl⟩ := Prod.mk.inj (Option.some.inj h)
        rw [errW_at _ _ (by decide) (by decide)]
        clear h
        go_enter Tryd.func24, Tryd.ntmps24
        go_wp2
        go_ret2
        exact ⟨rfl, ⟨0, rfl⟩⟩
      · rw [if_neg h2] at h
        obtain ⟨i, rfl⟩ := Int.eq_ofNat_of_zero_le (show 0 ≤ a1 by omega)
        obtain ⟨n, rfl⟩ := Int.eq_ofNat_of_zero_le (show 0 ≤ a2 by omega)
        by_cases h3 : (a0.size : Int) < (i : Int)
        · rw [if_pos h3] at h
          obtain ⟨rfl, rfl⟩ := Prod.mk.inj (Option.some.inj h)
          rw [errW_at _ _ (by decide) (by decide)]
          clear h
          have h7 : a0.size < i := by omega
          have b3 : decide (a0.size < i) = true := decide_eq_true h7
          have b4 : decide ((a0.size : Int) < (i : Int)) = true := decide_eq_true h3
          go_enter Tryd.func24, Tryd.ntmps24
          go_wp2
          go_ret2
          exact ⟨rfl, ⟨0, rfl⟩⟩
        · rw [if_neg h3] at h
          have h7 : ¬ a0.size < i := by omega
          have b3 : decide (a0.size < i) = false := decide_eq_false h7
          by_cases h4 : (a0.size : Int) - (i : Int) < (n : Int)
          · rw [if_pos h4] at h
            obtain ⟨rfl, rfl⟩ := Prod.mk.inj (Option.some.inj h)
            rw [errW_at _ _ (by decide) (by decide)]
            clear h
            have b4 : decide ((a0.size : Int) - (i : Int) < (n : Int)) = true := decide_eq_true h4
            go_enter Tryd.func24, Tryd.ntmps24
            go_wp2
            go_ret2
            exact ⟨rfl, ⟨0, rfl⟩⟩
          · rw [if_neg h4] at h
            obtain ⟨rfl, rfl⟩ := Prod.mk.inj (Option.some.inj h)
            rw [errW_none]
            clear h
            rw [Int.toNat_natCast, show ((i : Int) + (n : Int)).toNat = i + n by omega]
            have h6 : i + n ≤ a0.size := by omega
            clear h3
            have b4 : decide ((a0.size : Int) - (i : Int) < (n : Int)) = false := decide_eq_false h4
            have c1 := eq_true (show (0 : Int) ≤ (i : Int) by omega)
            have c2 := eq_true (show (i : Int) ≤ (i : Int) + (n : Int) by omega)
            have c3 := eq_true (show (i : Int) + (n : Int) ≤ (a0.size : Int) by omega)
            have c4 : ((i : Int) + (n : Int)).toNat = i + n := by omega
            go_enter Tryd.func24, Tryd.ntmps24
            go_wp2
            go_ret2
            exact ⟨rfl, ⟨0, rfl⟩⟩
  · rw [if_neg h5] at h
    cases h

/-! ### octets_number: function 25, by hand -/
-- IMPORT Derived.Test.YtclffgkefbdcpaaDoorAsErrno
def octets_number.f (a0 : Option Int) : Option (Int) := match a0 with
  | none => some 0
  | some c => some (c % 64)
set_option maxHeartbeats 4000000 in
theorem octets_number.calls (a0 : Option Int) (r : Int) (w : World) (hL : Laid w) (h : octets_number.f a0 = some r) :
    Calls Tryd.prog 25 #[errW a0] w fun e w' => e = .returned (.int .i64 r) ∧ Below w.heap.size w w' := by
  unfold octets_number.f at h
  cases a0 with
  | none =>
    cases h
    rw [errW_none]
    go_enter Tryd.func25, Tryd.ntmps25
    go_wp2
    go_ret
    exact ⟨rfl, (Below.refl _ _).alloc (Nat.le_refl _) _⟩
  | some c =>
    obtain rfl := Option.some.inj h
    clear h
    have HL := Aside0.mk hL
    clear hL
    rw [errW_some]
    go_enter Tryd.func25, Tryd.ntmps25
    go_wp2_with (go_at_call 28; refine (as_hit (c / 64) (c % 64) ⟨w.heap.size, 0, none⟩ (.int .i64 0) _ (laid_below HL.out (below_alloc (Below.refl _ _) _)) ((blk_cell (blk_new w _) 0).trans rfl) (blk_frozen (blk_new w _) 0)).mono ?_; rintro e1 w1 ⟨rfl, w2, hb, hc, hf, rfl⟩; have HB := Aside0.mk (below_step (below_alloc (Below.refl w.heap.size w) (.cells #[.int .i64 0] 23)) hb); clear hb)
    go_ret
    exact ⟨rfl, below_set HB.out (Nat.le_refl _)⟩

end Go.Proofs.YtclffgkefbdcpaaDoor.P
