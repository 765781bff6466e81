-- Written by wip/hprint.py (this session's program) through the kit's print program; hand contracts are marked 'by hand'.
import Derived.Test.YtclffgkefbdcpaaDoorPx0
import Derived.Test.YtclffgkefbdcpaaDoorPx7
import Derived.Test.YtclffgkefbdcpaaDoorPx8
namespace Go.Proofs.YtclffgkefbdcpaaDoor.P
open Go.RowKit Go.Proofs.YtclffgkefbdcpaaDoorW.PrintWords Go.Proofs.YtclffgkefbdcpaaDoorW.PrintLast Go.Proofs.YtclffgkefbdcpaaDoorW.PrintMore
attribute [local go_sem] max2_int min2_int max_two min_two max_three min_three max_four min_four   -- for this text's walks alone
set_option linter.unusedVariables false
set_option linter.unusedSimpArgs false

/-! ### gangwaylaw01_OctetsFar: function 8 -/
mutual
def gangwaylaw01_OctetsFar.j0 : Nat → ByteArray → Int → Option (Bool)
  | 0, _, _ => none
  | k + 1, x0, x1 => gangwaylaw01_OctetsFar.j1 k x0 x1 (wrap64 ((x0.size : Int) + (Go.bits .and .i64 x1 65535)))
def gangwaylaw01_OctetsFar.j1 : Nat → ByteArray → Int → Int → Option (Bool)
  | 0, _, _, _ => none
  | k + 1, x0, x1, x5 => (octets_Get.f k x0 x5 1).bind fun bt199 => ((octets_Get.f k x0 (wrap64 ((-1) - (Go.bits .and .i64 x1 65535))) 1).bind fun bt201 => (gangwaylaw01_OctetsFar.j2 k x0 x5 bt199.2 bt201.2))
def gangwaylaw01_OctetsFar.j2 : Nat → ByteArray → Int → Int → Int → Option (Bool)
  | 0, _, _, _, _ => none
  | k + 1, x0, x5, x7, x9 => (octets_Cut.f x0 x5 0).bind fun bt203 => (if x5 > (x0.size : Int) then (if x7 = 10 then (if x9 = 1 then (if bt203.1.toList = ([] : List UInt8) then (if bt203.2 = 10 then ((gangwaylaw01_fixed.f k).bind fun t205 => (some t205)) else (none)) else (none)) else (none)) else (none)) else (if x7 = 10 then (if x9 = 1 then (if bt203.1.toList = ([] : List UInt8) then (if bt203.2 = 0 then ((gangwaylaw01_fixed.f k).bind fun t206 => (some t206)) else (none)) else (none)) else (none)) else (none)))
end
def gangwaylaw01_OctetsFar.f (k : Nat) (a0 : ByteArray) (a1 : Int) : Option (Bool) := if 0 ≤ (mn (a0.size : Int) 1000) then (if (mn (a0.size : Int) 1000) ≤ (a0.size : Int) then (gangwaylaw01_OctetsFar.j0 k (a0.extract 0 ((mn (a0.size : Int) 1000) : Int).toNat) a1) else (none)) else (none)
theorem gangwaylaw01_OctetsFar.mono_l : ∀ k, (∀ y0 y1, LeO (gangwaylaw01_OctetsFar.j0 k y0 y1) (gangwaylaw01_OctetsFar.j0 (k + 1) y0 y1)) ∧ (∀ y0 y1 y2, LeO (gangwaylaw01_OctetsFar.j1 k y0 y1 y2) (gangwaylaw01_OctetsFar.j1 (k + 1) y0 y1 y2)) ∧ (∀ y0 y1 y2 y3, LeO (gangwaylaw01_OctetsFar.j2 k y0 y1 y2 y3) (gangwaylaw01_OctetsFar.j2 (k + 1) y0 y1 y2 y3))
  | 0 => ⟨fun _ _ r h => by simp [gangwaylaw01_OctetsFar.j0] at h, fun _ _ _ r h => by simp [gangwaylaw01_OctetsFar.j1] at h, fun _ _ _ _ r h => by simp [gangwaylaw01_OctetsFar.j2] at h⟩
  | k + 1 => by
    obtain ⟨ih0, ih1, ih2⟩ := gangwaylaw01_OctetsFar.mono_l k
    refine ⟨?_, ?_, ?_⟩
    · intro y0 y1
      unfold gangwaylaw01_OctetsFar.j0
      repeat' first
      | (with_reducible exact ih0 _ _)
      | (with_reducible exact ih1 _ _ _)
      | (with_reducible exact ih2 _ _ _ _)
      | (with_reducible exact gangwaylaw01_fixed.mono _)
      | (with_reducible exact octets_Get.mono _ _ _ _)
      | (with_reducible exact LeO.refl _)
      | (with_reducible exact LeO.none _)
      | (with_reducible refine LeO.ite ?_ ?_)
      | (with_reducible refine LeO.bind ?_ (fun _ => ?_))
      | exact ih0 _ _
      | exact ih1 _ _ _
      | exact ih2 _ _ _ _
      | exact gangwaylaw01_fixed.mono _
      | exact octets_Get.mono _ _ _ _
      | exact LeO.none _
      | refine LeO.ite ?_ ?_
      | refine LeO.bind ?_ (fun _ => ?_)
    · intro y0 y1 y2
      unfold gangwaylaw01_OctetsFar.j1
      repeat' first
      | (with_reducible exact ih0 _ _)
      | (with_reducible exact ih1 _ _ _)
      | (with_reducible exact ih2 _ _ _ _)
      | (with_reducible exact gangwaylaw01_fixed.mono _)
      | (with_reducible exact octets_Get.mono _ _ _ _)
      | (with_reducible exact LeO.refl _)
      | (with_reducible exact LeO.none _)
      | (with_reducible refine LeO.ite ?_ ?_)
      | (with_reducible refine LeO.bind ?_ (fun _ => ?_))
      | exact ih0 _ _
      | exact ih1 _ _ _
      | exact ih2 _ _ _ _
      | exact gangwaylaw01_fixed.mono _
      | exact octets_Get.mono _ _ _ _
      | exact LeO.none _
      | refine LeO.ite ?_ ?_
      | refine LeO.bind ?_ (fun _ => ?_)
    · intro y0 y1 y2 y3
      unfold gangwaylaw01_OctetsFar.j2
      repeat' first
      | (with_reducible exact ih0 _ _)
      | (with_reducible exact ih1 _ _ _)
      | (with_reducible exact ih2 _ _ _ _)
      | (with_reducible exact gangwaylaw01_fixed.mono _)
      | (with_reducible exact octets_Get.mono _ _ _ _)
      | (with_reducible exact LeO.refl _)
      | (with_reducible exact LeO.none _)
      | (with_reducible refine LeO.ite ?_ ?_)
      | (with_reducible refine LeO.bind ?_ (fun _ => ?_))
      | exact ih0 _ _
      | exact ih1 _ _ _
      | exact ih2 _ _ _ _
      | exact gangwaylaw01_fixed.mono _
      | exact octets_Get.mono _ _ _ _
      | exact LeO.none _
      | refine LeO.ite ?_ ?_
      | refine LeO.bind ?_ (fun _ => ?_)
theorem gangwaylaw01_OctetsFar.mono : ∀ a0 a1 k, LeO (gangwaylaw01_OctetsFar.f k a0 a1) (gangwaylaw01_OctetsFar.f (k + 1) a0 a1) := by
  intro a0 a1 k
  obtain ⟨ih0, ih1, ih2⟩ := gangwaylaw01_OctetsFar.mono_l k
  unfold gangwaylaw01_OctetsFar.f
  repeat' first
      | (with_reducible exact ih0 _ _)
      | (with_reducible exact ih1 _ _ _)
      | (with_reducible exact ih2 _ _ _ _)
      | (with_reducible exact gangwaylaw01_fixed.mono _)
      | (with_reducible exact octets_Get.mono _ _ _ _)
      | (with_reducible exact LeO.refl _)
      | (with_reducible exact LeO.none _)
      | (with_reducible refine LeO.ite ?_ ?_)
      | (with_reducible refine LeO.bind ?_ (fun _ => ?_))
      | exact ih0 _ _
      | exact ih1 _ _ _
      | exact ih2 _ _ _ _
      | exact gangwaylaw01_fixed.mono _
      | exact octets_Get.mono _ _ _ _
      | exact LeO.none _
      | refine LeO.ite ?_ ?_
      | refine LeO.bind ?_ (fun _ => ?_)
set_option maxHeartbeats 8000000 in
set_option maxRecDepth 100000 in
theorem gangwaylaw01_OctetsFar.calls (k : Nat) (a0 : ByteArray) (a1 : Int) (r : Bool) (w : World) (hL : Laid w) (h : gangwaylaw01_OctetsFar.f k a0 a1 = some r) :
    Calls Tryd.prog 8 #[.string a0, .int .i64 a1] w fun e w' => e = .returned (.bool r) ∧ Below w.heap.size w w' := by
  have HLD := Aside0.mk hL
  clear hL
  have HB := Aside0.mk (Below.refl w.heap.size w)
  have H : (if 0 ≤ (mn (a0.size : Int) 1000) then (if (mn (a0.size : Int) 1000) ≤ (a0.size : Int) then (gangwaylaw01_OctetsFar.j0 k (a0.extract 0 ((mn (a0.size : Int) 1000) : Int).toNat) a1) else (none)) else (none)) = some r := h
  clear h
  have HC3 := Aside0.mk H
  clear H
  go_enter Tryd.func8, Tryd.ntmps8
  go_upto_region 1 with (fail)
  go_cut [0] (fun v0 wc => ∃ (kq : Nat) (x0_2 : ByteArray), v0 = .string x0_2 ∧ Aside0 (gangwaylaw01_OctetsFar.j0 kq x0_2 a1 = some r) ∧ Aside0 (kq ≤ k) ∧ Aside0 (Below w.heap.size w wc))
  case first =>
    have H := HC3.out
    clear HC3
    obtain ⟨ji4, hji4⟩ : ∃ j_ : Int, (mn (a0.size : Int) 1000) = j_ := ⟨_, rfl⟩
    replace H : (if 0 ≤ (ji4) then (if (ji4) ≤ (a0.size : Int) then (gangwaylaw01_OctetsFar.j0 k (a0.extract 0 ((ji4) : Int).toNat) a1) else (none)) else (none)) = some r := by first | (rw [hji4] at H; exact H) | (simp only [hji4] at H ⊢; exact H)
    (try (have hji4h : ji4 ≤ 1000 := by (rw [← hji4]; unfold mn; (repeat' split) <;> omega)))
    (try (have hji4g : ji4 ≤ 64 := by omega))
    (try (have hji4l : 0 ≤ ji4 := by (rw [← hji4]; unfold mn; (repeat' split) <;> omega)))
    (try (have hji4m : 0 ≤ ji4 := by omega))
    have hji4_ : (if 1000 < (a0.size : Int) then 1000 else (a0.size : Int)) = ji4 := hji4
    by_cases c5 : 0 ≤ (ji4)
    · rw [if_pos c5] at H
      have c5b0 := eq_true c5
      have c5b1 : decide (0 ≤ (ji4)) = true := decide_eq_true c5
      clear c5
      by_cases c6 : (ji4) ≤ (a0.size : Int)
      · rw [if_pos c6] at H
        have c6b0 := eq_true c6
        have c6b1 : decide ((ji4) ≤ (a0.size : Int)) = true := decide_eq_true c6
        clear c6
        have H' := Aside0.mk H
        clear H
        go_wp2
        go_meet
        case rel => exact ⟨_, (a0.extract 0 ((ji4) : Int).toNat), (by first | rfl | (simp; done) | (simp only [← hji4] <;> (first | rfl | simp)) | (simp [*]; done)), H', ⟨by first | omega | exact Nat.le_refl _⟩, ⟨by repeat (first | (with_reducible first | exact HB.out | apply below_alloc | apply pw_below_drewN | apply below_drew1) | exact HB.out)⟩⟩
      · rw [if_neg c6] at H
        exact absurd H (by simp)
    · rw [if_neg c5] at H
      exact absurd H (by simp)
  case rest =>
    clear HC3
    try clear p2
    try clear c5
    try clear c5b0
    try clear c5b1
    try clear c6
    try clear c6b0
    try clear c6b1
    obtain ⟨kq, x0_2, rfl, HA, HJ2, HB⟩ := hcut
    cases kq with
    | zero => exact absurd HA.out (by simp [gangwaylaw01_OctetsFar.j0])
    | succ kj2 =>
      have H := HA.out
      clear HA
      simp only [gangwaylaw01_OctetsFar.j0] at H
      have HC7 := Aside0.mk H
      clear H
      go_upto_region 2 with (fail)
      go_cut [5] (fun v5 wc => ∃ (kq : Nat) (x5_6 : Int), v5 = .int .i64 x5_6 ∧ Aside0 (gangwaylaw01_OctetsFar.j1 kq x0_2 a1 x5_6 = some r) ∧ Aside0 (kq ≤ kj2) ∧ Aside0 (Below w.heap.size w wc))
      case first =>
        have H := HC7.out
        clear HC7
        have H' := Aside0.mk H
        clear H
        go_wp2
        go_meet
        case rel => exact ⟨_, (wrap64 ((x0_2.size : Int) + (Go.bits .and .i64 a1 65535))), (by first | rfl | (simp; done) | (simp [*]; done)), H', ⟨by have := HJ2.out; first | omega | exact Nat.le_refl _⟩, ⟨by repeat (first | (with_reducible first | exact HB.out | apply below_alloc | apply pw_below_drewN | apply below_drew1) | exact HB.out)⟩⟩
      case rest =>
        clear HC7
        try clear p2
        try clear c5
        try clear c5b0
        try clear c5b1
        try clear c6
        try clear c6b0
        try clear c6b1
        try clear p6
        try clear p2
        obtain ⟨kq, x5_6, rfl, HA, HJ6, HB⟩ := hcut
        cases kq with
        | zero => exact absurd HA.out (by simp [gangwaylaw01_OctetsFar.j1])
        | succ kj6 =>
          have H := HA.out
          clear HA
          simp only [gangwaylaw01_OctetsFar.j1] at H
          replace H := Option.bind_eq_some_iff.mp H
          obtain ⟨⟨t199, t200⟩, A80, H⟩ := H
          replace H : ((octets_Get.f kj6 x0_2 (wrap64 ((-1) - (Go.bits .and .i64 a1 65535))) 1).bind fun bt201 => (gangwaylaw01_OctetsFar.j2 kj6 x0_2 x5_6 t200 bt201.2)) = some r := H
          have A8 := Aside0.mk A80
          clear A80
          have HC9 := Aside0.mk H
          clear H
          go_upto_region 4 with (first | ((with_reducible refine gate_callee (f := 16) rfl ?_); refine goesL_ (some 26) rfl rfl Tryd.func16 (by kernel_rfl) rfl #[.string x0_2, .int .i64 x5_6, .int .i64 1] rfl (by (try simp only [List.map_toArray, List.map_cons, List.map_nil]); first | done | rfl | (simp only [List.length_drop, List.length_take]; rfl)) ?_; (with_reducible refine (octets_Get.calls kj6 x0_2 x5_6 1 t199 t200 _ ?sideL A8.out).mono ?_); (case sideL => exact laid_below HLD.out (by repeat (first | (with_reducible first | exact HB.out | apply below_alloc | apply pw_below_drewN | apply below_drew1) | exact HB.out))); rintro e w10 ⟨rfl, hb⟩; refine ⟨_, rfl, ?_⟩; have n0_ := Aside0.mk (below_step (by repeat (first | (with_reducible first | exact HB.out | apply below_alloc | apply pw_below_drewN | apply below_drew1) | exact HB.out)) hb); clear HB; have HB := n0_; clear n0_; (try clear hb); (try clear hb2); (try clear hk); (try clear hi)))
          (try simp only [Act.put, List.setIfInBounds_toArray, List.set_cons_zero, List.set_cons_succ])
          go_cut [9] (fun v9 wc => ∃ (kq : Nat) (x9_8 : Int), v9 = .int .i64 x9_8 ∧ Aside0 (gangwaylaw01_OctetsFar.j2 kq x0_2 x5_6 t200 x9_8 = some r) ∧ Aside0 (kq ≤ kj6) ∧ Aside0 (Below w.heap.size w wc))
          case first =>
            have H := HC9.out
            clear HC9
            replace H := Option.bind_eq_some_iff.mp H
            obtain ⟨⟨t201, t202⟩, A110, H⟩ := H
            replace H : (gangwaylaw01_OctetsFar.j2 kj6 x0_2 x5_6 t200 t202) = some r := H
            have A11 := Aside0.mk A110
            clear A110
            have H' := Aside0.mk H
            clear H
            go_wp2_with (first | ((with_reducible refine gate_callee (f := 16) rfl ?_); refine goesL_ (some 34) rfl rfl Tryd.func16 (by kernel_rfl) rfl #[.string x0_2, .int .i64 (wrap64 ((-1) - (Go.bits .and .i64 a1 65535))), .int .i64 1] rfl (by (try simp only [List.map_toArray, List.map_cons, List.map_nil]); first | done | rfl | (simp only [List.length_drop, List.length_take]; rfl)) ?_; (with_reducible refine (octets_Get.calls kj6 x0_2 (wrap64 ((-1) - (Go.bits .and .i64 a1 65535))) 1 t201 t202 _ ?sideL A11.out).mono ?_); (case sideL => exact laid_below HLD.out (by repeat (first | (with_reducible first | exact HB.out | apply below_alloc | apply pw_below_drewN | apply below_drew1) | exact HB.out))); rintro e w12 ⟨rfl, hb⟩; refine ⟨_, rfl, ?_⟩; have n0_ := Aside0.mk (below_step (by repeat (first | (with_reducible first | exact HB.out | apply below_alloc | apply pw_below_drewN | apply below_drew1) | exact HB.out)) hb); clear HB; have HB := n0_; clear n0_; (try clear hb); (try clear hb2); (try clear hk); (try clear hi)))
            go_meet
            case rel => exact ⟨_, (t202), (by first | rfl | (simp; done) | (simp [*]; done)), H', ⟨by have := HJ2.out; have := HJ6.out; first | omega | exact Nat.le_refl _⟩, ⟨by repeat (first | (with_reducible first | exact HB.out | apply below_alloc | apply pw_below_drewN | apply below_drew1) | exact HB.out)⟩⟩
          case rest =>
            clear HC9
            try clear c1
            try clear p2
            try clear c5
            try clear c5b0
            try clear c5b1
            try clear c6
            try clear c6b0
            try clear c6b1
            try clear p6
            try clear c8
            try clear p2
            try clear p6
            obtain ⟨kq, x9_8, rfl, HA, HJ8, HB⟩ := hcut
            cases kq with
            | zero => exact absurd HA.out (by simp [gangwaylaw01_OctetsFar.j2])
            | succ kj8 =>
              have H := HA.out
              clear HA
              simp only [gangwaylaw01_OctetsFar.j2] at H
              replace H := Option.bind_eq_some_iff.mp H
              obtain ⟨⟨t203, t204⟩, A130, H⟩ := H
              replace H : (if x5_6 > (x0_2.size : Int) then (if t200 = 10 then (if x9_8 = 1 then (if t203.toList = ([] : List UInt8) then (if t204 = 10 then ((gangwaylaw01_fixed.f kj8).bind fun t205 => (some t205)) else (none)) else (none)) else (none)) else (none)) else (if t200 = 10 then (if x9_8 = 1 then (if t203.toList = ([] : List UInt8) then (if t204 = 0 then ((gangwaylaw01_fixed.f kj8).bind fun t206 => (some t206)) else (none)) else (none)) else (none)) else (none))) = some r := H
              have A13 := Aside0.mk A130
              clear A130
              by_cases c14 : x5_6 > (x0_2.size : Int)
              · rw [if_pos c14] at H
                have c14b0 : decide ((x0_2.size : Int) < x5_6) = true := decide_eq_true c14
                clear c14
                by_cases c15 : t200 = 10
                · rw [if_pos c15] at H
                  have c15b0 : (t200 == 10) = true := beq_iff_eq.mpr c15
                  have c15b1 : (t200 != 10) = false := bne_eq_false_iff_eq.mpr c15
                  clear c15
                  by_cases c16 : x9_8 = 1
                  · rw [if_pos c16] at H
                    have c16b0 : (x9_8 == 1) = true := beq_iff_eq.mpr c16
                    have c16b1 : (x9_8 != 1) = false := bne_eq_false_iff_eq.mpr c16
                    clear c16
                    by_cases c17 : t203.toList = ([] : List UInt8)
                    · rw [if_pos c17] at H
                      have c17b0 : (t203.toList == ([] : List UInt8)) = true := beq_iff_eq.mpr c17
                      have c17b1 : (t203.toList != ([] : List UInt8)) = false := bne_eq_false_iff_eq.mpr c17
                      clear c17
                      by_cases c18 : t204 = 10
                      · rw [if_pos c18] at H
                        have c18b0 : (t204 == 10) = true := beq_iff_eq.mpr c18
                        have c18b1 : (t204 != 10) = false := bne_eq_false_iff_eq.mpr c18
                        clear c18
                        replace H := Option.bind_eq_some_iff.mp H
                        obtain ⟨t205, A190, H⟩ := H
                        replace H : (some t205) = some r := H
                        have A19 := Aside0.mk A190
                        clear A190
                        obtain rfl := Option.some.inj H
                        go_wp2_with (first | ((with_reducible refine gate_callee (f := 17) rfl ?_); refine goesL_ (some 40) rfl rfl Tryd.func17 (by kernel_rfl) rfl #[.string x0_2, .int .i64 x5_6, .int .i64 0] rfl (by (try simp only [List.map_toArray, List.map_cons, List.map_nil]); first | done | rfl | (simp only [List.length_drop, List.length_take]; rfl)) ?_; (with_reducible refine (octets_Cut.calls x0_2 x5_6 0 t203 t204 _ ?sideL A13.out).mono ?_); (case sideL => exact laid_below HLD.out (by repeat (first | (with_reducible first | exact HB.out | apply below_alloc | apply pw_below_drewN | apply below_drew1) | exact HB.out))); rintro e w20 ⟨rfl, hb⟩; refine ⟨_, rfl, ?_⟩; have n0_ := Aside0.mk (below_step (by repeat (first | (with_reducible first | exact HB.out | apply below_alloc | apply pw_below_drewN | apply below_drew1) | exact HB.out)) hb); clear HB; have HB := n0_; clear n0_; (try clear hb); (try clear hb2); (try clear hk); (try clear hi)) | (go_at_call 11; (with_reducible refine (gangwaylaw01_fixed.calls kj8  t205 _ ?sideL A19.out).mono ?_); (case sideL => exact laid_below HLD.out (by repeat (first | (with_reducible first | exact HB.out | apply below_alloc | apply pw_below_drewN | apply below_drew1) | exact HB.out))); rintro e w21 ⟨rfl, hb⟩; have n0_ := Aside0.mk (below_step (by repeat (first | (with_reducible first | exact HB.out | apply below_alloc | apply pw_below_drewN | apply below_drew1) | exact HB.out)) hb); clear HB; have HB := n0_; clear n0_; (try clear hb); (try clear hb2); (try clear hk); (try clear hi)))
                        go_ret
                        exact ⟨by first | rfl | (simp [errW_none, errW_some] <;> rfl) | (simp [*, errW_none, errW_some] <;> rfl) | (simp [*, IntKind.wrap_u32]; done) | (simp_all [IntKind.wrap_u32]; done), by repeat (first | (with_reducible first | exact HB.out | apply below_alloc | apply pw_below_drewN | apply below_drew1) | exact HB.out)⟩
                      · rw [if_neg c18] at H
                        exact absurd H (by simp)
                    · rw [if_neg c17] at H
                      exact absurd H (by simp)
                  · rw [if_neg c16] at H
                    exact absurd H (by simp)
                · rw [if_neg c15] at H
                  exact absurd H (by simp)
              · rw [if_neg c14] at H
                have c14b0 : decide ((x0_2.size : Int) < x5_6) = false := decide_eq_false c14
                clear c14
                by_cases c22 : t200 = 10
                · rw [if_pos c22] at H
                  have c22b0 : (t200 == 10) = true := beq_iff_eq.mpr c22
                  have c22b1 : (t200 != 10) = false := bne_eq_false_iff_eq.mpr c22
                  clear c22
                  by_cases c23 : x9_8 = 1
                  · rw [if_pos c23] at H
                    have c23b0 : (x9_8 == 1) = true := beq_iff_eq.mpr c23
                    have c23b1 : (x9_8 != 1) = false := bne_eq_false_iff_eq.mpr c23
                    clear c23
                    by_cases c24 : t203.toList = ([] : List UInt8)
                    · rw [if_pos c24] at H
                      have c24b0 : (t203.toList == ([] : List UInt8)) = true := beq_iff_eq.mpr c24
                      have c24b1 : (t203.toList != ([] : List UInt8)) = false := bne_eq_false_iff_eq.mpr c24
                      clear c24
                      by_cases c25 : t204 = 0
                      · rw [if_pos c25] at H
                        have c25b0 : (t204 == 0) = true := beq_iff_eq.mpr c25
                        have c25b1 : (t204 != 0) = false := bne_eq_false_iff_eq.mpr c25
                        clear c25
                        replace H := Option.bind_eq_some_iff.mp H
                        obtain ⟨t206, A260, H⟩ := H
                        replace H : (some t206) = some r := H
                        have A26 := Aside0.mk A260
                        clear A260
                        obtain rfl := Option.some.inj H
                        go_wp2_with (first | ((with_reducible refine gate_callee (f := 17) rfl ?_); refine goesL_ (some 40) rfl rfl Tryd.func17 (by kernel_rfl) rfl #[.string x0_2, .int .i64 x5_6, .int .i64 0] rfl (by (try simp only [List.map_toArray, List.map_cons, List.map_nil]); first | done | rfl | (simp only [List.length_drop, List.length_take]; rfl)) ?_; (with_reducible refine (octets_Cut.calls x0_2 x5_6 0 t203 t204 _ ?sideL A13.out).mono ?_); (case sideL => exact laid_below HLD.out (by repeat (first | (with_reducible first | exact HB.out | apply below_alloc | apply pw_below_drewN | apply below_drew1) | exact HB.out))); rintro e w27 ⟨rfl, hb⟩; refine ⟨_, rfl, ?_⟩; have n0_ := Aside0.mk (below_step (by repeat (first | (with_reducible first | exact HB.out | apply below_alloc | apply pw_below_drewN | apply below_drew1) | exact HB.out)) hb); clear HB; have HB := n0_; clear n0_; (try clear hb); (try clear hb2); (try clear hk); (try clear hi)) | (go_at_call 11; (with_reducible refine (gangwaylaw01_fixed.calls kj8  t206 _ ?sideL A26.out).mono ?_); (case sideL => exact laid_below HLD.out (by repeat (first | (with_reducible first | exact HB.out | apply below_alloc | apply pw_below_drewN | apply below_drew1) | exact HB.out))); rintro e w28 ⟨rfl, hb⟩; have n0_ := Aside0.mk (below_step (by repeat (first | (with_reducible first | exact HB.out | apply below_alloc | apply pw_below_drewN | apply below_drew1) | exact HB.out)) hb); clear HB; have HB := n0_; clear n0_; (try clear hb); (try clear hb2); (try clear hk); (try clear hi)))
                        go_ret
                        exact ⟨by first | rfl | (simp [errW_none, errW_some] <;> rfl) | (simp [*, errW_none, errW_some] <;> rfl) | (simp [*, IntKind.wrap_u32]; done) | (simp_all [IntKind.wrap_u32]; done), by repeat (first | (with_reducible first | exact HB.out | apply below_alloc | apply pw_below_drewN | apply below_drew1) | exact HB.out)⟩
                      · rw [if_neg c25] at H
                        exact absurd H (by simp)
                    · rw [if_neg c24] at H
                      exact absurd H (by simp)
                  · rw [if_neg c23] at H
                    exact absurd H (by simp)
                · rw [if_neg c22] at H
                  exact absurd H (by simp)


end Go.Proofs.YtclffgkefbdcpaaDoor.P
