-- Written by wip/hprint.py (this session's program) through the kit's print program; hand contracts are marked 'by hand'.
import Derived.Test.YthgdphfblajijaaDoorPx0
import Derived.Test.YthgdphfblajijaaDoorPx2
namespace Go.Proofs.YthgdphfblajijaaDoor.P
open Go.RowKit Go.Proofs.YthgdphfblajijaaDoorW.PrintWords Go.Proofs.YthgdphfblajijaaDoorW.PrintLast Go.Proofs.YthgdphfblajijaaDoorW.PrintMore
attribute [local go_sem] max2_int min2_int max_two min_two max_three min_three max_four min_four   -- for this text's walks alone
set_option linter.unusedVariables false
set_option linter.unusedSimpArgs false

/-! ### gangwayref08_Build: function 9 -/
def gangwayref08_Build.f (k : Nat) (a0 : Int) (a1 : ByteArray) : Option (ByteArray × Int) := if a0 < 0 then (some ((⟨#[]⟩ : ByteArray), 1)) else (if a0 > 16777215 then (some ((⟨#[]⟩ : ByteArray), 1)) else ((gangwayref01_Bytes.f k (IntKind.u64.wrap ((IntKind.u64.wrap (a0)) * 256)) 4).bind fun t113 => (if 4 + t113.size ≤ 9223372036854775807 then (if ((⟨#[8, 0, 0, 0]⟩ : ByteArray) ++ t113).size + a1.size ≤ 9223372036854775807 then (some (((⟨#[8, 0, 0, 0]⟩ : ByteArray) ++ t113) ++ a1, 0)) else (none)) else (none))))
theorem gangwayref08_Build.mono : ∀ a0 a1 k, LeO (gangwayref08_Build.f k a0 a1) (gangwayref08_Build.f (k + 1) a0 a1) := by
  intro a0 a1 k
  unfold gangwayref08_Build.f
  repeat' first
      | (with_reducible exact gangwayref01_Bytes.mono _ _ _)
      | (with_reducible exact LeO.refl _)
      | (with_reducible exact LeO.none _)
      | (with_reducible refine LeO.ite ?_ ?_)
      | (with_reducible refine LeO.bind ?_ (fun _ => ?_))
      | exact gangwayref01_Bytes.mono _ _ _
      | exact LeO.none _
      | refine LeO.ite ?_ ?_
      | refine LeO.bind ?_ (fun _ => ?_)
set_option maxHeartbeats 8000000 in
set_option maxRecDepth 100000 in
theorem gangwayref08_Build.calls (k : Nat) (a0 : Int) (a1 : ByteArray) (r1 : ByteArray) (r2 : Int) (w : World) (h : gangwayref08_Build.f k a0 a1 = some (r1, r2)) :
    Calls Tryd.prog 9 #[.int .i64 a0, .string a1] w fun e w' => e = .returned (.tuple #[.string r1, .int .i64 r2]) ∧ Below w.heap.size w w' := by
  have HB := Aside0.mk (Below.refl w.heap.size w)
  have H : (if a0 < 0 then (some ((⟨#[]⟩ : ByteArray), 1)) else (if a0 > 16777215 then (some ((⟨#[]⟩ : ByteArray), 1)) else ((gangwayref01_Bytes.f k (IntKind.u64.wrap ((IntKind.u64.wrap (a0)) * 256)) 4).bind fun t113 => (if 4 + t113.size ≤ 9223372036854775807 then (if ((⟨#[8, 0, 0, 0]⟩ : ByteArray) ++ t113).size + a1.size ≤ 9223372036854775807 then (some (((⟨#[8, 0, 0, 0]⟩ : ByteArray) ++ t113) ++ a1, 0)) else (none)) else (none))))) = some (r1, r2) := h
  clear h
  by_cases c3 : a0 < 0
  · rw [if_pos c3] at H
    have c3b0 : decide (a0 < 0) = true := decide_eq_true c3
    clear c3
    simp only [Option.some.injEq, Prod.mk.injEq] at H
    obtain ⟨rfl, rfl⟩ := H
    go_enter Tryd.func9, Tryd.ntmps9
    go_wp2
    go_ret2
    exact ⟨by first | rfl | (simp [errW_none, errW_some] <;> rfl) | (simp [*, errW_none, errW_some] <;> rfl) | (simp [*, IntKind.wrap_u32]; done) | (simp_all [IntKind.wrap_u32]; done), by repeat (first | (with_reducible first | exact HB.out | apply below_alloc | apply pw_below_drewN | apply below_drew1) | exact HB.out)⟩
  · rw [if_neg c3] at H
    have c3b0 : decide (a0 < 0) = false := decide_eq_false c3
    clear c3
    by_cases c4 : a0 > 16777215
    · rw [if_pos c4] at H
      have c4b0 : decide (16777215 < a0) = true := decide_eq_true c4
      clear c4
      simp only [Option.some.injEq, Prod.mk.injEq] at H
      obtain ⟨rfl, rfl⟩ := H
      go_enter Tryd.func9, Tryd.ntmps9
      go_wp2
      go_ret2
      exact ⟨by first | rfl | (simp [errW_none, errW_some] <;> rfl) | (simp [*, errW_none, errW_some] <;> rfl) | (simp [*, IntKind.wrap_u32]; done) | (simp_all [IntKind.wrap_u32]; done), by repeat (first | (with_reducible first | exact HB.out | apply below_alloc | apply pw_below_drewN | apply below_drew1) | exact HB.out)⟩
    · rw [if_neg c4] at H
      have c4b0 : decide (16777215 < a0) = false := decide_eq_false c4
      clear c4
      replace H := Option.bind_eq_some_iff.mp H
      obtain ⟨t113, A50, H⟩ := H
      replace H : (if 4 + t113.size ≤ 9223372036854775807 then (if ((⟨#[8, 0, 0, 0]⟩ : ByteArray) ++ t113).size + a1.size ≤ 9223372036854775807 then (some (((⟨#[8, 0, 0, 0]⟩ : ByteArray) ++ t113) ++ a1, 0)) else (none)) else (none)) = some (r1, r2) := H
      have A5 := Aside0.mk A50
      clear A50
      by_cases c6 : 4 + t113.size ≤ 9223372036854775807
      · rw [if_pos c6] at H
        have c6b0 := eq_true c6
        have c6b1 : decide (4 + t113.size ≤ 9223372036854775807) = true := decide_eq_true c6
        try have c6b2 : (9223372036854775807 < 4 + t113.size) = False := eq_false (Nat.not_lt.2 c6)
        by_cases c7 : ((⟨#[8, 0, 0, 0]⟩ : ByteArray) ++ t113).size + a1.size ≤ 9223372036854775807
        · rw [if_pos c7] at H
          have c7b0 := eq_true c7
          have c7b1 : decide (((⟨#[8, 0, 0, 0]⟩ : ByteArray) ++ t113).size + a1.size ≤ 9223372036854775807) = true := decide_eq_true c7
          have c7z := c7
          simp only [ByteArray.size_append] at c7z
          have c7z1 := eq_true c7z
          have c7z2 := eq_false (Nat.not_lt.2 c7z)
          try have c7b2 : (9223372036854775807 < ((⟨#[8, 0, 0, 0]⟩ : ByteArray) ++ t113).size + a1.size) = False := eq_false (Nat.not_lt.2 c7)
          simp only [Option.some.injEq, Prod.mk.injEq] at H
          obtain ⟨rfl, rfl⟩ := H
          go_enter Tryd.func9, Tryd.ntmps9
          go_wp2_with (first | ((with_reducible refine gate_callee (f := 18) rfl ?_); refine goesL_ (some 15) rfl rfl Tryd.func18 (by kernel_rfl) rfl #[.int .u64 (IntKind.u64.wrap ((IntKind.u64.wrap (a0)) * 256)), .int .i64 4] rfl (by (try simp only [List.map_toArray, List.map_cons, List.map_nil]); first | done | rfl | (simp only [List.length_drop, List.length_take]; rfl)) ?_; (with_reducible refine (gangwayref01_Bytes.calls k (IntKind.u64.wrap ((IntKind.u64.wrap (a0)) * 256)) 4 t113 _ A5.out).mono ?_); rintro e w8 ⟨rfl, hb⟩; refine ⟨_, rfl, ?_⟩; have n0_ := Aside0.mk (below_step (by repeat (first | (with_reducible first | exact HB.out | apply below_alloc | apply pw_below_drewN | apply below_drew1) | exact HB.out)) hb); clear HB; have HB := n0_; clear n0_; (try clear hb); (try clear hb2); (try clear hk); (try clear hi)))
          go_ret2
          exact ⟨by first | rfl | (simp [errW_none, errW_some] <;> rfl) | (simp [*, errW_none, errW_some] <;> rfl) | (simp [*, IntKind.wrap_u32]; done) | (simp_all [IntKind.wrap_u32]; done), by repeat (first | (with_reducible first | exact HB.out | apply below_alloc | apply pw_below_drewN | apply below_drew1) | exact HB.out)⟩
        · rw [if_neg c7] at H
          exact absurd H (by simp)
      · rw [if_neg c6] at H
        exact absurd H (by simp)

/-! ### octets_part: function 21, by hand -/
def octets_part.f (a0 : ByteArray) (a1 : Int) (a2 : Int) : Option (ByteArray × Option Int) :=
  if 0 ≤ a1 then (if 0 ≤ a2 then (if a1 + a2 ≤ (a0.size : Int) then (if a0.size ≤ 1099511627776 then some (a0.extract a1.toNat (a1 + a2).toNat, none) else none) else none) else none) else none
set_option maxHeartbeats 4000000 in
theorem octets_part.calls (a0 : ByteArray) (a1 : Int) (a2 : Int) (r1 : ByteArray) (r2 : Option Int) (w : World) (h : octets_part.f a0 a1 a2 = some (r1, r2)) :
    Calls Tryd.prog 21 #[.string a0, .int .i64 a1, .int .i64 a2] w fun e w' => e = .returned (.tuple #[.string r1, errW r2]) ∧ Drawn0 w w' := by
  unfold octets_part.f at h
  by_cases h1 : 0 ≤ a1
  · rw [if_pos h1] at h
    by_cases h2 : 0 ≤ a2
    · rw [if_pos h2] at h
      by_cases h3 : a1 + a2 ≤ (a0.size : Int)
      · rw [if_pos h3] at h
        by_cases h4 : a0.size ≤ 1099511627776
        · rw [if_pos h4] at h
          obtain ⟨i, rfl⟩ := Int.eq_ofNat_of_zero_le h1
          obtain ⟨n, rfl⟩ := Int.eq_ofNat_of_zero_le h2
          obtain ⟨rfl, rfl⟩ : a0.extract i (i + n) = r1 ∧ none = r2 := by
            have h5 := Option.some.inj h
            rw [Int.toNat_natCast, show ((i : Int) + (n : Int)).toNat = i + n by omega] at h5
            exact Prod.mk.inj h5
          clear h
          have h5 : i + n ≤ a0.size := by omega
          clear h3
          have b3 : decide (a0.size < i) = false := decide_eq_false (by omega)
          have b4 : decide ((a0.size : Int) - (i : Int) < (n : Int)) = false := decide_eq_false (by omega)
          have b5 : ¬ a0.size < i := by omega
          have b6 : ¬ ((a0.size : Int) - (i : Int) < (n : Int)) := by omega
          have c1 := eq_true (show (0 : Int) ≤ (i : Int) by omega)
          have c2 := eq_true (show (i : Int) ≤ (i : Int) + (n : Int) by omega)
          have c3 := eq_true (show (i : Int) + (n : Int) ≤ (a0.size : Int) by omega)
          have c4 : ((i : Int) + (n : Int)).toNat = i + n := by omega
          go_enter Tryd.func21, Tryd.ntmps21
          go_wp2
          go_ret2
          exact ⟨rfl, ⟨0, rfl⟩⟩
        · rw [if_neg h4] at h
          cases h
      · rw [if_neg h3] at h
        cases h
    · rw [if_neg h2] at h
      cases h
  · rw [if_neg h1] at h
    cases h

/-! ### octets_number: function 22, by hand -/
def octets_number.f (a0 : Option Int) : Option (Int) := if a0 = none then some 0 else none
theorem octets_number.calls (a0 : Option Int) (r : Int) (w : World) (h : octets_number.f a0 = some r) :
    Calls Tryd.prog 22 #[errW a0] w fun e w' => e = .returned (.int .i64 r) ∧ Below w.heap.size w w' := by
  unfold octets_number.f at h
  by_cases h1 : a0 = none
  · rw [if_pos h1] at h
    cases h
    subst h1
    rw [errW_none]
    go_enter Tryd.func22, Tryd.ntmps22
    go_wp2
    go_ret
    exact ⟨rfl, (Below.refl _ _).alloc (Nat.le_refl _) _⟩
  · rw [if_neg h1] at h
    cases h

end Go.Proofs.YthgdphfblajijaaDoor.P
