-- Written by wip/hprint.py (this session's program) through the kit's print program; hand contracts are marked 'by hand'.
import Derived.Test.YtclffgkefbdcpaaDoorPx0
import Derived.Test.YtclffgkefbdcpaaDoorPx4
import Derived.Test.YtclffgkefbdcpaaDoorPx5
import Derived.Test.YtclffgkefbdcpaaDoorPx8
import Derived.Test.YtclffgkefbdcpaaDoorPx10
import Derived.Test.YtclffgkefbdcpaaDoorPx11
namespace Go.Proofs.YtclffgkefbdcpaaDoor.P
open Go.RowKit Go.Proofs.YtclffgkefbdcpaaDoorW.PrintWords Go.Proofs.YtclffgkefbdcpaaDoorW.PrintLast Go.Proofs.YtclffgkefbdcpaaDoorW.PrintMore
attribute [local go_sem] max2_int min2_int max_two min_two max_three min_three max_four min_four   -- for this text's walks alone
set_option linter.unusedVariables false
set_option linter.unusedSimpArgs false

/-! ### gangwaylaw01_OctetsHex: function 4 -/
mutual
def gangwaylaw01_OctetsHex.j0 : Nat → ByteArray → ByteArray → Option (Bool)
  | 0, _, _ => none
  | k + 1, x0, x1 => if 0 ≤ (mn (x1.size : Int) 1000) then (if (mn (x1.size : Int) 1000) ≤ (x1.size : Int) then (gangwaylaw01_OctetsHex.j1 k x0 (x1.extract 0 ((mn (x1.size : Int) 1000) : Int).toNat)) else (none)) else (none)
def gangwaylaw01_OctetsHex.j1 : Nat → ByteArray → ByteArray → Option (Bool)
  | 0, _, _ => none
  | k + 1, x0, x1 => (octets_Unhex.f x1).bind fun bt157 => ((gangwayref01_Unhex.f k x1).bind fun bt159 => ((gangwaylaw01_fixed.f k).bind fun t161 => (if t161 = true then ((octets_Hex.f x0).bind fun t162 => ((gangwayref01_Hex.f k x0).bind fun t163 => (if t162.toList = t163.toList then (if bt157.1.toList = bt159.1.toList then (some (bt157.2 == bt159.2)) else (none)) else (none)))) else (none))))
end
def gangwaylaw01_OctetsHex.f (k : Nat) (a0 : ByteArray) (a1 : ByteArray) : Option (Bool) := if 0 ≤ (mn (a0.size : Int) 1000) then (if (mn (a0.size : Int) 1000) ≤ (a0.size : Int) then (gangwaylaw01_OctetsHex.j0 k (a0.extract 0 ((mn (a0.size : Int) 1000) : Int).toNat) a1) else (none)) else (none)
theorem gangwaylaw01_OctetsHex.mono_l : ∀ k, (∀ y0 y1, LeO (gangwaylaw01_OctetsHex.j0 k y0 y1) (gangwaylaw01_OctetsHex.j0 (k + 1) y0 y1)) ∧ (∀ y0 y1, LeO (gangwaylaw01_OctetsHex.j1 k y0 y1) (gangwaylaw01_OctetsHex.j1 (k + 1) y0 y1))
  | 0 => ⟨fun _ _ r h => by simp [gangwaylaw01_OctetsHex.j0] at h, fun _ _ r h => by simp [gangwaylaw01_OctetsHex.j1] at h⟩
  | k + 1 => by
    obtain ⟨ih0, ih1⟩ := gangwaylaw01_OctetsHex.mono_l k
    refine ⟨?_, ?_⟩
    · intro y0 y1
      unfold gangwaylaw01_OctetsHex.j0
      repeat' first
      | (with_reducible exact ih0 _ _)
      | (with_reducible exact ih1 _ _)
      | (with_reducible exact gangwaylaw01_fixed.mono _)
      | (with_reducible exact gangwayref01_Hex.mono _ _)
      | (with_reducible exact gangwayref01_Unhex.mono _ _)
      | (with_reducible exact LeO.refl _)
      | (with_reducible exact LeO.none _)
      | (with_reducible refine LeO.ite ?_ ?_)
      | (with_reducible refine LeO.bind ?_ (fun _ => ?_))
      | exact ih0 _ _
      | exact ih1 _ _
      | exact gangwaylaw01_fixed.mono _
      | exact gangwayref01_Hex.mono _ _
      | exact gangwayref01_Unhex.mono _ _
      | exact LeO.none _
      | refine LeO.ite ?_ ?_
      | refine LeO.bind ?_ (fun _ => ?_)
    · intro y0 y1
      unfold gangwaylaw01_OctetsHex.j1
      repeat' first
      | (with_reducible exact ih0 _ _)
      | (with_reducible exact ih1 _ _)
      | (with_reducible exact gangwaylaw01_fixed.mono _)
      | (with_reducible exact gangwayref01_Hex.mono _ _)
      | (with_reducible exact gangwayref01_Unhex.mono _ _)
      | (with_reducible exact LeO.refl _)
      | (with_reducible exact LeO.none _)
      | (with_reducible refine LeO.ite ?_ ?_)
      | (with_reducible refine LeO.bind ?_ (fun _ => ?_))
      | exact ih0 _ _
      | exact ih1 _ _
      | exact gangwaylaw01_fixed.mono _
      | exact gangwayref01_Hex.mono _ _
      | exact gangwayref01_Unhex.mono _ _
      | exact LeO.none _
      | refine LeO.ite ?_ ?_
      | refine LeO.bind ?_ (fun _ => ?_)
theorem gangwaylaw01_OctetsHex.mono : ∀ a0 a1 k, LeO (gangwaylaw01_OctetsHex.f k a0 a1) (gangwaylaw01_OctetsHex.f (k + 1) a0 a1) := by
  intro a0 a1 k
  obtain ⟨ih0, ih1⟩ := gangwaylaw01_OctetsHex.mono_l k
  unfold gangwaylaw01_OctetsHex.f
  repeat' first
      | (with_reducible exact ih0 _ _)
      | (with_reducible exact ih1 _ _)
      | (with_reducible exact gangwaylaw01_fixed.mono _)
      | (with_reducible exact gangwayref01_Hex.mono _ _)
      | (with_reducible exact gangwayref01_Unhex.mono _ _)
      | (with_reducible exact LeO.refl _)
      | (with_reducible exact LeO.none _)
      | (with_reducible refine LeO.ite ?_ ?_)
      | (with_reducible refine LeO.bind ?_ (fun _ => ?_))
      | exact ih0 _ _
      | exact ih1 _ _
      | exact gangwaylaw01_fixed.mono _
      | exact gangwayref01_Hex.mono _ _
      | exact gangwayref01_Unhex.mono _ _
      | exact LeO.none _
      | refine LeO.ite ?_ ?_
      | refine LeO.bind ?_ (fun _ => ?_)
set_option maxHeartbeats 8000000 in
set_option maxRecDepth 100000 in
theorem gangwaylaw01_OctetsHex.calls (k : Nat) (a0 : ByteArray) (a1 : ByteArray) (r : Bool) (w : World) (hL : Laid w) (h : gangwaylaw01_OctetsHex.f k a0 a1 = some r) :
    Calls Tryd.prog 4 #[.string a0, .string a1] w fun e w' => e = .returned (.bool r) ∧ Below w.heap.size w w' := by
  have HLD := Aside0.mk hL
  clear hL
  have HB := Aside0.mk (Below.refl w.heap.size w)
  have H : (if 0 ≤ (mn (a0.size : Int) 1000) then (if (mn (a0.size : Int) 1000) ≤ (a0.size : Int) then (gangwaylaw01_OctetsHex.j0 k (a0.extract 0 ((mn (a0.size : Int) 1000) : Int).toNat) a1) else (none)) else (none)) = some r := h
  clear h
  have HC3 := Aside0.mk H
  clear H
  go_enter Tryd.func4, Tryd.ntmps4
  go_upto_region 1 with (fail)
  go_cut [0] (fun v0 wc => ∃ (kq : Nat) (x0_2 : ByteArray), v0 = .string x0_2 ∧ Aside0 (gangwaylaw01_OctetsHex.j0 kq x0_2 a1 = some r) ∧ Aside0 (kq ≤ k) ∧ Aside0 (Below w.heap.size w wc))
  case first =>
    have H := HC3.out
    clear HC3
    obtain ⟨ji4, hji4⟩ : ∃ j_ : Int, (mn (a0.size : Int) 1000) = j_ := ⟨_, rfl⟩
    replace H : (if 0 ≤ (ji4) then (if (ji4) ≤ (a0.size : Int) then (gangwaylaw01_OctetsHex.j0 k (a0.extract 0 ((ji4) : Int).toNat) a1) else (none)) else (none)) = some r := by first | (rw [hji4] at H; exact H) | (simp only [hji4] at H ⊢; exact H)
    (try (have hji4h : ji4 ≤ 1000 := by (rw [← hji4]; unfold mn; (repeat' split) <;> omega)))
    (try (have hji4g : ji4 ≤ 64 := by omega))
    (try (have hji4l : 0 ≤ ji4 := by (rw [← hji4]; unfold mn; (repeat' split) <;> omega)))
    (try (have hji4m : 0 ≤ ji4 := by omega))
    have hji4_ : (if 1000 < (a0.size : Int) then 1000 else (a0.size : Int)) = ji4 := hji4
    by_cases c5 : 0 ≤ (ji4)
    · rw [if_pos c5] at H
      have c5b0 := eq_true c5
      have c5b1 : decide (0 ≤ (ji4)) = true := decide_eq_true c5
      clear c5
      by_cases c6 : (ji4) ≤ (a0.size : Int)
      · rw [if_pos c6] at H
        have c6b0 := eq_true c6
        have c6b1 : decide ((ji4) ≤ (a0.size : Int)) = true := decide_eq_true c6
        clear c6
        have H' := Aside0.mk H
        clear H
        go_wp2
        go_meet
        case rel => exact ⟨_, (a0.extract 0 ((ji4) : Int).toNat), (by first | rfl | (simp; done) | (simp only [← hji4] <;> (first | rfl | simp)) | (simp [*]; done)), H', ⟨by first | omega | exact Nat.le_refl _⟩, ⟨by repeat (first | (with_reducible first | exact HB.out | apply below_alloc | apply pw_below_drewN | apply below_drew1) | exact HB.out)⟩⟩
      · rw [if_neg c6] at H
        exact absurd H (by simp)
    · rw [if_neg c5] at H
      exact absurd H (by simp)
  case rest =>
    clear HC3
    try clear p2
    try clear c4
    try clear c5
    try clear c5b0
    try clear c5b1
    try clear c6
    try clear c6b0
    try clear c6b1
    obtain ⟨kq, x0_2, rfl, HA, HJ2, HB⟩ := hcut
    cases kq with
    | zero => exact absurd HA.out (by simp [gangwaylaw01_OctetsHex.j0])
    | succ kj2 =>
      have H := HA.out
      clear HA
      simp only [gangwaylaw01_OctetsHex.j0] at H
      have HC7 := Aside0.mk H
      clear H
      go_upto_region 2 with (fail)
      go_cut [1] (fun v1 wc => ∃ (kq : Nat) (x1_6 : ByteArray), v1 = .string x1_6 ∧ Aside0 (gangwaylaw01_OctetsHex.j1 kq x0_2 x1_6 = some r) ∧ Aside0 (kq ≤ kj2) ∧ Aside0 (Below w.heap.size w wc))
      case first =>
        have H := HC7.out
        clear HC7
        obtain ⟨ji8, hji8⟩ : ∃ j_ : Int, (mn (a1.size : Int) 1000) = j_ := ⟨_, rfl⟩
        replace H : (if 0 ≤ (ji8) then (if (ji8) ≤ (a1.size : Int) then (gangwaylaw01_OctetsHex.j1 kj2 x0_2 (a1.extract 0 ((ji8) : Int).toNat)) else (none)) else (none)) = some r := by first | (rw [hji8] at H; exact H) | (simp only [hji8] at H ⊢; exact H)
        have hji8_ : (if 1000 < (a1.size : Int) then 1000 else (a1.size : Int)) = ji8 := hji8
        by_cases c9 : 0 ≤ (ji8)
        · rw [if_pos c9] at H
          have c9b0 := eq_true c9
          have c9b1 : decide (0 ≤ (ji8)) = true := decide_eq_true c9
          clear c9
          by_cases c10 : (ji8) ≤ (a1.size : Int)
          · rw [if_pos c10] at H
            have c10b0 := eq_true c10
            have c10b1 : decide ((ji8) ≤ (a1.size : Int)) = true := decide_eq_true c10
            clear c10
            have H' := Aside0.mk H
            clear H
            go_wp2
            go_meet
            case rel => exact ⟨_, (a1.extract 0 ((ji8) : Int).toNat), (by first | rfl | (simp; done) | (simp only [← hji8] <;> (first | rfl | simp)) | (simp [*]; done)), H', ⟨by have := HJ2.out; first | omega | exact Nat.le_refl _⟩, ⟨by repeat (first | (with_reducible first | exact HB.out | apply below_alloc | apply pw_below_drewN | apply below_drew1) | exact HB.out)⟩⟩
          · rw [if_neg c10] at H
            exact absurd H (by simp)
        · rw [if_neg c9] at H
          exact absurd H (by simp)
      case rest =>
        clear HC7
        try clear c1
        try clear p2
        try clear c4
        try clear c5
        try clear c5b0
        try clear c5b1
        try clear c6
        try clear c6b0
        try clear c6b1
        try clear c9
        try clear c9b0
        try clear c9b1
        try clear c10
        try clear c10b0
        try clear c10b1
        try clear p2
        obtain ⟨kq, x1_6, rfl, HA, HJ6, HB⟩ := hcut
        cases kq with
        | zero => exact absurd HA.out (by simp [gangwaylaw01_OctetsHex.j1])
        | succ kj6 =>
          have H := HA.out
          clear HA
          simp only [gangwaylaw01_OctetsHex.j1] at H
          replace H := Option.bind_eq_some_iff.mp H
          obtain ⟨⟨t157, t158⟩, A110, H⟩ := H
          replace H : ((gangwayref01_Unhex.f kj6 x1_6).bind fun bt159 => ((gangwaylaw01_fixed.f kj6).bind fun t161 => (if t161 = true then ((octets_Hex.f x0_2).bind fun t162 => ((gangwayref01_Hex.f kj6 x0_2).bind fun t163 => (if t162.toList = t163.toList then (if t157.toList = bt159.1.toList then (some (t158 == bt159.2)) else (none)) else (none)))) else (none)))) = some r := H
          have A11 := Aside0.mk A110
          clear A110
          replace H := Option.bind_eq_some_iff.mp H
          obtain ⟨⟨t159, t160⟩, A120, H⟩ := H
          replace H : ((gangwaylaw01_fixed.f kj6).bind fun t161 => (if t161 = true then ((octets_Hex.f x0_2).bind fun t162 => ((gangwayref01_Hex.f kj6 x0_2).bind fun t163 => (if t162.toList = t163.toList then (if t157.toList = t159.toList then (some (t158 == t160)) else (none)) else (none)))) else (none))) = some r := H
          have A12 := Aside0.mk A120
          clear A120
          replace H := Option.bind_eq_some_iff.mp H
          obtain ⟨t161, A130, H⟩ := H
          replace H : (if t161 = true then ((octets_Hex.f x0_2).bind fun t162 => ((gangwayref01_Hex.f kj6 x0_2).bind fun t163 => (if t162.toList = t163.toList then (if t157.toList = t159.toList then (some (t158 == t160)) else (none)) else (none)))) else (none)) = some r := H
          have A13 := Aside0.mk A130
          clear A130
          by_cases c14 : t161 = true
          · subst c14
            have H1 : ((octets_Hex.f x0_2).bind fun t162 => ((gangwayref01_Hex.f kj6 x0_2).bind fun t163 => (if t162.toList = t163.toList then (if t157.toList = t159.toList then (some (t158 == t160)) else (none)) else (none)))) = some r := by rw [if_pos rfl] at H; exact H
            clear H
            have H := H1
            clear H1
            replace H := Option.bind_eq_some_iff.mp H
            obtain ⟨t162, A150, H⟩ := H
            replace H : ((gangwayref01_Hex.f kj6 x0_2).bind fun t163 => (if t162.toList = t163.toList then (if t157.toList = t159.toList then (some (t158 == t160)) else (none)) else (none))) = some r := H
            have A15 := Aside0.mk A150
            clear A150
            replace H := Option.bind_eq_some_iff.mp H
            obtain ⟨t163, A160, H⟩ := H
            replace H : (if t162.toList = t163.toList then (if t157.toList = t159.toList then (some (t158 == t160)) else (none)) else (none)) = some r := H
            have A16 := Aside0.mk A160
            clear A160
            by_cases c17 : t162.toList = t163.toList
            · rw [if_pos c17] at H
              have c17b0 : (t162.toList == t163.toList) = true := beq_iff_eq.mpr c17
              have c17b1 : (t162.toList != t163.toList) = false := bne_eq_false_iff_eq.mpr c17
              clear c17
              by_cases c18 : t157.toList = t159.toList
              · rw [if_pos c18] at H
                have c18b0 : (t157.toList == t159.toList) = true := beq_iff_eq.mpr c18
                have c18b1 : (t157.toList != t159.toList) = false := bne_eq_false_iff_eq.mpr c18
                clear c18
                obtain rfl := Option.some.inj H
                go_wp2_with (first | ((with_reducible refine gate_callee (f := 12) rfl ?_); refine goesL_ (some 21) rfl rfl Tryd.func12 (by kernel_rfl) rfl #[.string x1_6] rfl (by (try simp only [List.map_toArray, List.map_cons, List.map_nil]); first | done | rfl | (simp only [List.length_drop, List.length_take]; rfl)) ?_; (with_reducible refine (octets_Unhex.calls x1_6 t157 t158 _ A11.out).mono ?_); rintro e w19 ⟨rfl, hb⟩; refine ⟨_, rfl, ?_⟩; have n0_ := Aside0.mk (below_step (by repeat (first | (with_reducible first | exact HB.out | apply below_alloc | apply pw_below_drewN | apply below_drew1) | exact HB.out)) hb); clear HB; have HB := n0_; clear n0_; (try clear hb); (try clear hb2); (try clear hk); (try clear hi)) | ((with_reducible refine gate_callee (f := 13) rfl ?_); refine goesL_ (some 26) rfl rfl Tryd.func13 (by kernel_rfl) rfl #[.string x1_6] rfl (by (try simp only [List.map_toArray, List.map_cons, List.map_nil]); first | done | rfl | (simp only [List.length_drop, List.length_take]; rfl)) ?_; (with_reducible refine (gangwayref01_Unhex.calls kj6 x1_6 t159 t160 _ A12.out).mono ?_); rintro e w20 ⟨rfl, hb⟩; refine ⟨_, rfl, ?_⟩; have n0_ := Aside0.mk (below_step (by repeat (first | (with_reducible first | exact HB.out | apply below_alloc | apply pw_below_drewN | apply below_drew1) | exact HB.out)) hb); clear HB; have HB := n0_; clear n0_; (try clear hb); (try clear hb2); (try clear hk); (try clear hi)) | ((with_reducible refine gate_callee (f := 11) rfl ?_); refine goesL_ (some 29) rfl rfl Tryd.func11 (by kernel_rfl) rfl #[] rfl (by (try simp only [List.map_toArray, List.map_cons, List.map_nil]); first | done | rfl | (simp only [List.length_drop, List.length_take]; rfl)) ?_; (with_reducible refine (gangwaylaw01_fixed.calls kj6  true _ ?sideL A13.out).mono ?_); (case sideL => exact laid_below HLD.out (by repeat (first | (with_reducible first | exact HB.out | apply below_alloc | apply pw_below_drewN | apply below_drew1) | exact HB.out))); rintro e w21 ⟨rfl, hb⟩; refine ⟨_, rfl, ?_⟩; have n0_ := Aside0.mk (below_step (by repeat (first | (with_reducible first | exact HB.out | apply below_alloc | apply pw_below_drewN | apply below_drew1) | exact HB.out)) hb); clear HB; have HB := n0_; clear n0_; (try clear hb); (try clear hb2); (try clear hk); (try clear hi)) | (go_at_call 14; (with_reducible refine (octets_Hex.calls x0_2 t162 _ A15.out).mono ?_); rintro e w22 ⟨rfl, hb⟩; have n0_ := Aside0.mk (below_step (by repeat (first | (with_reducible first | exact HB.out | apply below_alloc | apply pw_below_drewN | apply below_drew1) | exact HB.out)) hb); clear HB; have HB := n0_; clear n0_; (try clear hb); (try clear hb2); (try clear hk); (try clear hi)) | (go_at_call 15; (with_reducible refine (gangwayref01_Hex.calls kj6 x0_2 t163 _ A16.out).mono ?_); rintro e w23 ⟨rfl, hb⟩; have n0_ := Aside0.mk (below_step (by repeat (first | (with_reducible first | exact HB.out | apply below_alloc | apply pw_below_drewN | apply below_drew1) | exact HB.out)) hb); clear HB; have HB := n0_; clear n0_; (try clear hb); (try clear hb2); (try clear hk); (try clear hi)))
                go_ret
                exact ⟨by first | rfl | (simp [errW_none, errW_some] <;> rfl) | (simp [*, errW_none, errW_some] <;> rfl) | (simp [*, IntKind.wrap_u32]; done) | (simp_all [IntKind.wrap_u32]; done), by repeat (first | (with_reducible first | exact HB.out | apply below_alloc | apply pw_below_drewN | apply below_drew1) | exact HB.out)⟩
              · rw [if_neg c18] at H
                exact absurd H (by simp)
            · rw [if_neg c17] at H
              exact absurd H (by simp)
          · replace c14 := Bool.eq_false_iff.mpr c14
            subst c14
            have H1 : (none) = some r := by rw [if_neg (show ¬ (false = true) by decide)] at H; exact H
            clear H
            have H := H1
            clear H1
            exact absurd H (by simp)


end Go.Proofs.YtclffgkefbdcpaaDoor.P
