-- Written by wip/hprint.py (this session's program) through the kit's print program; hand contracts are marked 'by hand'.
import Derived.Test.YthgdphfblajijaaDoorPx0
import Derived.Test.YthgdphfblajijaaDoorPx5
import Derived.Test.YthgdphfblajijaaDoorPx7
namespace Go.Proofs.YthgdphfblajijaaDoor.P
open Go.RowKit Go.Proofs.YthgdphfblajijaaDoorW.PrintWords Go.Proofs.YthgdphfblajijaaDoorW.PrintLast Go.Proofs.YthgdphfblajijaaDoorW.PrintMore
attribute [local go_sem] max2_int min2_int max_two min_two max_three min_three max_four min_four   -- for this text's walks alone
set_option linter.unusedVariables false
set_option linter.unusedSimpArgs false

/-! ### gangwaylaw08_VxlanFlags: function 7 -/
mutual
def gangwaylaw08_VxlanFlags.j0 : Nat → ByteArray → Option (Bool)
  | 0, _ => none
  | k + 1, x0 => (vxlan_Parse.f k x0).bind fun bt176 => (if (x0.size : Int) < 8 then (if bt176.2.2 = 80 then ((gangwaylaw08_fixed.f k).bind fun t179 => (some t179)) else (some false)) else (if 0 < (x0.size : Int) then (gangwaylaw08_VxlanFlags.j1 k x0 bt176.1 bt176.2.1 bt176.2.2 ((((Int.tdiv (bt x0 0) 8) % 256) % 2) == 1)) else (none)))
def gangwaylaw08_VxlanFlags.j1 : Nat → ByteArray → Int → ByteArray → Int → Bool → Option (Bool)
  | 0, _, _, _, _, _ => none
  | k + 1, x0, x3, x4, x5, x6 => if (x6 != (x5 == 0)) = true then (some false) else (if x6 = true then (if x3 ≥ 0 then (if x3 ≤ 16777215 then (if 8 ≤ (x0.size : Int) then (if x4.toList = (x0.extract 8 x0.size).toList then ((gangwaylaw08_fixed.f k).bind fun t180 => (gangwaylaw08_VxlanFlags.j2 k t180)) else (gangwaylaw08_VxlanFlags.j2 k false)) else (none)) else (gangwaylaw08_VxlanFlags.j2 k false)) else (gangwaylaw08_VxlanFlags.j2 k false)) else (if x5 = 81 then (if x3 = 0 then (if x4.toList = ([] : List UInt8) then ((gangwaylaw08_fixed.f k).bind fun t181 => (gangwaylaw08_VxlanFlags.j3 k t181)) else (some false)) else (some false)) else (some false)))
def gangwaylaw08_VxlanFlags.j2 : Nat → Bool → Option (Bool)
  | 0, _ => none
  | k + 1, x2 => some x2
def gangwaylaw08_VxlanFlags.j3 : Nat → Bool → Option (Bool)
  | 0, _ => none
  | k + 1, x2 => some x2
end
def gangwaylaw08_VxlanFlags.f (k : Nat) (a0 : ByteArray) : Option (Bool) := if 0 ≤ (mn (a0.size : Int) 1700) then (if (mn (a0.size : Int) 1700) ≤ (a0.size : Int) then (gangwaylaw08_VxlanFlags.j0 k (a0.extract 0 ((mn (a0.size : Int) 1700) : Int).toNat)) else (none)) else (none)
theorem gangwaylaw08_VxlanFlags.mono_l : ∀ k, (∀ y0, LeO (gangwaylaw08_VxlanFlags.j0 k y0) (gangwaylaw08_VxlanFlags.j0 (k + 1) y0)) ∧ (∀ y0 y1 y2 y3 y4, LeO (gangwaylaw08_VxlanFlags.j1 k y0 y1 y2 y3 y4) (gangwaylaw08_VxlanFlags.j1 (k + 1) y0 y1 y2 y3 y4)) ∧ (∀ y0, LeO (gangwaylaw08_VxlanFlags.j2 k y0) (gangwaylaw08_VxlanFlags.j2 (k + 1) y0)) ∧ (∀ y0, LeO (gangwaylaw08_VxlanFlags.j3 k y0) (gangwaylaw08_VxlanFlags.j3 (k + 1) y0))
  | 0 => ⟨fun _ r h => by simp [gangwaylaw08_VxlanFlags.j0] at h, fun _ _ _ _ _ r h => by simp [gangwaylaw08_VxlanFlags.j1] at h, fun _ r h => by simp [gangwaylaw08_VxlanFlags.j2] at h, fun _ r h => by simp [gangwaylaw08_VxlanFlags.j3] at h⟩
  | k + 1 => by
    obtain ⟨ih0, ih1, ih2, ih3⟩ := gangwaylaw08_VxlanFlags.mono_l k
    refine ⟨?_, ?_, ?_, ?_⟩
    · intro y0
      unfold gangwaylaw08_VxlanFlags.j0
      repeat' first
      | (with_reducible exact ih0 _)
      | (with_reducible exact ih1 _ _ _ _ _)
      | (with_reducible exact ih2 _)
      | (with_reducible exact ih3 _)
      | (with_reducible exact gangwaylaw08_fixed.mono _)
      | (with_reducible exact vxlan_Parse.mono _ _)
      | (with_reducible exact LeO.refl _)
      | (with_reducible exact LeO.none _)
      | (with_reducible refine LeO.ite ?_ ?_)
      | (with_reducible refine LeO.bind ?_ (fun _ => ?_))
      | exact ih0 _
      | exact ih1 _ _ _ _ _
      | exact ih2 _
      | exact ih3 _
      | exact gangwaylaw08_fixed.mono _
      | exact vxlan_Parse.mono _ _
      | exact LeO.none _
      | refine LeO.ite ?_ ?_
      | refine LeO.bind ?_ (fun _ => ?_)
    · intro y0 y1 y2 y3 y4
      unfold gangwaylaw08_VxlanFlags.j1
      repeat' first
      | (with_reducible exact ih0 _)
      | (with_reducible exact ih1 _ _ _ _ _)
      | (with_reducible exact ih2 _)
      | (with_reducible exact ih3 _)
      | (with_reducible exact gangwaylaw08_fixed.mono _)
      | (with_reducible exact vxlan_Parse.mono _ _)
      | (with_reducible exact LeO.refl _)
      | (with_reducible exact LeO.none _)
      | (with_reducible refine LeO.ite ?_ ?_)
      | (with_reducible refine LeO.bind ?_ (fun _ => ?_))
      | exact ih0 _
      | exact ih1 _ _ _ _ _
      | exact ih2 _
      | exact ih3 _
      | exact gangwaylaw08_fixed.mono _
      | exact vxlan_Parse.mono _ _
      | exact LeO.none _
      | refine LeO.ite ?_ ?_
      | refine LeO.bind ?_ (fun _ => ?_)
    · intro y0
      unfold gangwaylaw08_VxlanFlags.j2
      repeat' first
      | (with_reducible exact ih0 _)
      | (with_reducible exact ih1 _ _ _ _ _)
      | (with_reducible exact ih2 _)
      | (with_reducible exact ih3 _)
      | (with_reducible exact gangwaylaw08_fixed.mono _)
      | (with_reducible exact vxlan_Parse.mono _ _)
      | (with_reducible exact LeO.refl _)
      | (with_reducible exact LeO.none _)
      | (with_reducible refine LeO.ite ?_ ?_)
      | (with_reducible refine LeO.bind ?_ (fun _ => ?_))
      | exact ih0 _
      | exact ih1 _ _ _ _ _
      | exact ih2 _
      | exact ih3 _
      | exact gangwaylaw08_fixed.mono _
      | exact vxlan_Parse.mono _ _
      | exact LeO.none _
      | refine LeO.ite ?_ ?_
      | refine LeO.bind ?_ (fun _ => ?_)
    · intro y0
      unfold gangwaylaw08_VxlanFlags.j3
      repeat' first
      | (with_reducible exact ih0 _)
      | (with_reducible exact ih1 _ _ _ _ _)
      | (with_reducible exact ih2 _)
      | (with_reducible exact ih3 _)
      | (with_reducible exact gangwaylaw08_fixed.mono _)
      | (with_reducible exact vxlan_Parse.mono _ _)
      | (with_reducible exact LeO.refl _)
      | (with_reducible exact LeO.none _)
      | (with_reducible refine LeO.ite ?_ ?_)
      | (with_reducible refine LeO.bind ?_ (fun _ => ?_))
      | exact ih0 _
      | exact ih1 _ _ _ _ _
      | exact ih2 _
      | exact ih3 _
      | exact gangwaylaw08_fixed.mono _
      | exact vxlan_Parse.mono _ _
      | exact LeO.none _
      | refine LeO.ite ?_ ?_
      | refine LeO.bind ?_ (fun _ => ?_)
theorem gangwaylaw08_VxlanFlags.mono : ∀ a0 k, LeO (gangwaylaw08_VxlanFlags.f k a0) (gangwaylaw08_VxlanFlags.f (k + 1) a0) := by
  intro a0 k
  obtain ⟨ih0, ih1, ih2, ih3⟩ := gangwaylaw08_VxlanFlags.mono_l k
  unfold gangwaylaw08_VxlanFlags.f
  repeat' first
      | (with_reducible exact ih0 _)
      | (with_reducible exact ih1 _ _ _ _ _)
      | (with_reducible exact ih2 _)
      | (with_reducible exact ih3 _)
      | (with_reducible exact gangwaylaw08_fixed.mono _)
      | (with_reducible exact vxlan_Parse.mono _ _)
      | (with_reducible exact LeO.refl _)
      | (with_reducible exact LeO.none _)
      | (with_reducible refine LeO.ite ?_ ?_)
      | (with_reducible refine LeO.bind ?_ (fun _ => ?_))
      | exact ih0 _
      | exact ih1 _ _ _ _ _
      | exact ih2 _
      | exact ih3 _
      | exact gangwaylaw08_fixed.mono _
      | exact vxlan_Parse.mono _ _
      | exact LeO.none _
      | refine LeO.ite ?_ ?_
      | refine LeO.bind ?_ (fun _ => ?_)
set_option maxHeartbeats 8000000 in
set_option maxRecDepth 100000 in
theorem gangwaylaw08_VxlanFlags.calls (k : Nat) (a0 : ByteArray) (r : Bool) (w : World) (h : gangwaylaw08_VxlanFlags.f k a0 = some r) :
    Calls Tryd.prog 7 #[.string a0] w fun e w' => e = .returned (.bool r) ∧ Below w.heap.size w w' := by
  have HB := Aside0.mk (Below.refl w.heap.size w)
  have H : (if 0 ≤ (mn (a0.size : Int) 1700) then (if (mn (a0.size : Int) 1700) ≤ (a0.size : Int) then (gangwaylaw08_VxlanFlags.j0 k (a0.extract 0 ((mn (a0.size : Int) 1700) : Int).toNat)) else (none)) else (none)) = some r := h
  clear h
  have HC2 := Aside0.mk H
  clear H
  go_enter Tryd.func7, Tryd.ntmps7
  go_upto_region 1 with (fail)
  go_cut [0] (fun v0 wc => ∃ (kq : Nat) (x0_1 : ByteArray), v0 = .string x0_1 ∧ Aside0 (gangwaylaw08_VxlanFlags.j0 kq x0_1 = some r) ∧ Aside0 (kq ≤ k) ∧ Aside0 (Below w.heap.size w wc))
  case first =>
    have H := HC2.out
    clear HC2
    obtain ⟨ji3, hji3⟩ : ∃ j_ : Int, (mn (a0.size : Int) 1700) = j_ := ⟨_, rfl⟩
    replace H : (if 0 ≤ (ji3) then (if (ji3) ≤ (a0.size : Int) then (gangwaylaw08_VxlanFlags.j0 k (a0.extract 0 ((ji3) : Int).toNat)) else (none)) else (none)) = some r := by first | (rw [hji3] at H; exact H) | (simp only [hji3] at H ⊢; exact H)
    (try (have hji3h : ji3 ≤ 1700 := by (rw [← hji3]; unfold mn; (repeat' split) <;> omega)))
    (try (have hji3g : ji3 ≤ 64 := by omega))
    (try (have hji3l : 0 ≤ ji3 := by (rw [← hji3]; unfold mn; (repeat' split) <;> omega)))
    (try (have hji3m : 0 ≤ ji3 := by omega))
    have hji3_ : (if 1700 < (a0.size : Int) then 1700 else (a0.size : Int)) = ji3 := hji3
    by_cases c4 : 0 ≤ (ji3)
    · rw [if_pos c4] at H
      have c4b0 := eq_true c4
      have c4b1 : decide (0 ≤ (ji3)) = true := decide_eq_true c4
      clear c4
      by_cases c5 : (ji3) ≤ (a0.size : Int)
      · rw [if_pos c5] at H
        have c5b0 := eq_true c5
        have c5b1 : decide ((ji3) ≤ (a0.size : Int)) = true := decide_eq_true c5
        clear c5
        have H' := Aside0.mk H
        clear H
        go_wp2
        go_meet
        case rel => exact ⟨_, (a0.extract 0 ((ji3) : Int).toNat), (by first | rfl | (simp; done) | (simp only [← hji3] <;> (first | rfl | simp)) | (simp [*]; done)), H', ⟨by first | omega | exact Nat.le_refl _⟩, ⟨by repeat (first | (with_reducible first | exact HB.out | apply below_alloc | apply pw_below_drewN | apply below_drew1) | exact HB.out)⟩⟩
      · rw [if_neg c5] at H
        exact absurd H (by simp)
    · rw [if_neg c4] at H
      exact absurd H (by simp)
  case rest =>
    clear HC2
    try clear p2
    try clear c4
    try clear c4b0
    try clear c4b1
    try clear c5
    try clear c5b0
    try clear c5b1
    obtain ⟨kq, x0_1, rfl, HA, HJ1, HB⟩ := hcut
    cases kq with
    | zero => exact absurd HA.out (by simp [gangwaylaw08_VxlanFlags.j0])
    | succ kj1 =>
      have H := HA.out
      clear HA
      simp only [gangwaylaw08_VxlanFlags.j0] at H
      replace H := Option.bind_eq_some_iff.mp H
      obtain ⟨⟨t176, t177, t178⟩, A60, H⟩ := H
      replace H : (if (x0_1.size : Int) < 8 then (if t178 = 80 then ((gangwaylaw08_fixed.f kj1).bind fun t179 => (some t179)) else (some false)) else (if 0 < (x0_1.size : Int) then (gangwaylaw08_VxlanFlags.j1 kj1 x0_1 t176 t177 t178 ((((Int.tdiv (bt x0_1 0) 8) % 256) % 2) == 1)) else (none))) = some r := H
      have A6 := Aside0.mk A60
      clear A60
      by_cases c7 : (x0_1.size : Int) < 8
      · rw [if_pos c7] at H
        have c7b0 : decide ((x0_1.size : Int) < 8) = true := decide_eq_true c7
        have c7b1 : decide (x0_1.size < 8) = true := decide_eq_true (by omega)
        clear c7
        by_cases c8 : t178 = 80
        · rw [if_pos c8] at H
          have c8b0 : (t178 == 80) = true := beq_iff_eq.mpr c8
          have c8b1 : (t178 != 80) = false := bne_eq_false_iff_eq.mpr c8
          clear c8
          replace H := Option.bind_eq_some_iff.mp H
          obtain ⟨t179, A90, H⟩ := H
          replace H : (some t179) = some r := H
          have A9 := Aside0.mk A90
          clear A90
          obtain rfl := Option.some.inj H
          go_wp2_with (first | ((with_reducible refine gate_callee (f := 10) rfl ?_); refine goesL_ (some 14) rfl rfl Tryd.func10 (by kernel_rfl) rfl #[.string x0_1] rfl (by (try simp only [List.map_toArray, List.map_cons, List.map_nil]); first | done | rfl | (simp only [List.length_drop, List.length_take]; rfl)) ?_; (with_reducible refine (vxlan_Parse.calls kj1 x0_1 t176 t177 t178 _ A6.out).mono ?_); rintro e w10 ⟨rfl, hb⟩; refine ⟨_, rfl, ?_⟩; have n0_ := Aside0.mk (below_step (by repeat (first | (with_reducible first | exact HB.out | apply below_alloc | apply pw_below_drewN | apply below_drew1) | exact HB.out)) hb); clear HB; have HB := n0_; clear n0_; (try clear hb); (try clear hb2); (try clear hk); (try clear hi)) | (go_at_call 12; (with_reducible refine (gangwaylaw08_fixed.calls kj1  t179 _ A9.out).mono ?_); rintro e w11 ⟨rfl, hb⟩; have n0_ := Aside0.mk (below_step (by repeat (first | (with_reducible first | exact HB.out | apply below_alloc | apply pw_below_drewN | apply below_drew1) | exact HB.out)) hb); clear HB; have HB := n0_; clear n0_; (try clear hb); (try clear hb2); (try clear hk); (try clear hi)))
          go_ret
          exact ⟨by first | rfl | (simp [errW_none, errW_some] <;> rfl) | (simp [*, errW_none, errW_some] <;> rfl) | (simp [*, IntKind.wrap_u32]; done) | (simp_all [IntKind.wrap_u32]; done), by repeat (first | (with_reducible first | exact HB.out | apply below_alloc | apply pw_below_drewN | apply below_drew1) | exact HB.out)⟩
        · rw [if_neg c8] at H
          have c8b0 : (t178 == 80) = false := beq_eq_false_iff_ne.mpr c8
          have c8b1 : (t178 != 80) = true := bne_iff_ne.mpr c8
          obtain rfl := Option.some.inj H
          go_wp2_with (first | ((with_reducible refine gate_callee (f := 10) rfl ?_); refine goesL_ (some 14) rfl rfl Tryd.func10 (by kernel_rfl) rfl #[.string x0_1] rfl (by (try simp only [List.map_toArray, List.map_cons, List.map_nil]); first | done | rfl | (simp only [List.length_drop, List.length_take]; rfl)) ?_; (with_reducible refine (vxlan_Parse.calls kj1 x0_1 t176 t177 t178 _ A6.out).mono ?_); rintro e w12 ⟨rfl, hb⟩; refine ⟨_, rfl, ?_⟩; have n0_ := Aside0.mk (below_step (by repeat (first | (with_reducible first | exact HB.out | apply below_alloc | apply pw_below_drewN | apply below_drew1) | exact HB.out)) hb); clear HB; have HB := n0_; clear n0_; (try clear hb); (try clear hb2); (try clear hk); (try clear hi)))
          go_ret
          exact ⟨by first | rfl | (simp [errW_none, errW_some] <;> rfl) | (simp [*, errW_none, errW_some] <;> rfl) | (simp [*, IntKind.wrap_u32]; done) | (simp_all [IntKind.wrap_u32]; done), by repeat (first | (with_reducible first | exact HB.out | apply below_alloc | apply pw_below_drewN | apply below_drew1) | exact HB.out)⟩
      · rw [if_neg c7] at H
        have c7b0 : decide ((x0_1.size : Int) < 8) = false := decide_eq_false c7
        have c7b1 : decide (x0_1.size < 8) = false := decide_eq_false (by omega)
        clear c7
        have HC13 := Aside0.mk H
        clear H
        go_upto_region 5 with (first | ((with_reducible refine gate_callee (f := 10) rfl ?_); refine goesL_ (some 14) rfl rfl Tryd.func10 (by kernel_rfl) rfl #[.string x0_1] rfl (by (try simp only [List.map_toArray, List.map_cons, List.map_nil]); first | done | rfl | (simp only [List.length_drop, List.length_take]; rfl)) ?_; (with_reducible refine (vxlan_Parse.calls kj1 x0_1 t176 t177 t178 _ A6.out).mono ?_); rintro e w14 ⟨rfl, hb⟩; refine ⟨_, rfl, ?_⟩; have n0_ := Aside0.mk (below_step (by repeat (first | (with_reducible first | exact HB.out | apply below_alloc | apply pw_below_drewN | apply below_drew1) | exact HB.out)) hb); clear HB; have HB := n0_; clear n0_; (try clear hb); (try clear hb2); (try clear hk); (try clear hi)))
        (try simp only [Act.put, List.setIfInBounds_toArray, List.set_cons_zero, List.set_cons_succ])
        go_cut [6] (fun v6 wc => ∃ (kq : Nat) (x6_12 : Bool), v6 = .bool x6_12 ∧ Aside0 (gangwaylaw08_VxlanFlags.j1 kq x0_1 t176 t177 t178 x6_12 = some r) ∧ Aside0 (kq ≤ kj1) ∧ Aside0 (Below w.heap.size w wc))
        case first =>
          have H := HC13.out
          clear HC13
          by_cases c15 : 0 < (x0_1.size : Int)
          · rw [if_pos c15] at H
            have c15b0 : decide (0 < (x0_1.size : Int)) = true := decide_eq_true c15
            have c15b1 : decide (0 < x0_1.size) = true := decide_eq_true (by omega)
            clear c15
            (first | rw [c15b0] | (simp only [i64_w, i32_w]; rw [c15b0]) | skip)
            have H' := Aside0.mk H
            clear H
            have p16 : 0 ≤ (0 : Int) := (by omega)
            have q16 : 0 < x0_1.size := (by have : (0 : Int) < (x0_1.size : Int) := of_decide_eq_true (by first | (with_reducible assumption) | assumption); omega)
            have hx16 : ∀ h : 0 < x0_1.size, ((x0_1[0]'h).toNat : Int) = bt x0_1 0 := bt_at x0_1 0
            clear p16
            have qi16 : (0 < (x0_1.size : Int)) = True := eq_true (of_decide_eq_true (by first | (with_reducible assumption) | assumption))
            replace q16 := eq_true q16
            go_wp2
            go_meet
            case rel => exact ⟨_, (((((Int.tdiv (bt x0_1 0) 8) % 256) % 2) == 1)), (by first | rfl | (simp; done) | (simp [*]; done)), H', ⟨by have := HJ1.out; first | omega | exact Nat.le_refl _⟩, ⟨by repeat (first | (with_reducible first | exact HB.out | apply below_alloc | apply pw_below_drewN | apply below_drew1) | exact HB.out)⟩⟩
          · rw [if_neg c15] at H
            exact absurd H (by simp)
        case rest =>
          clear HC13
          try clear c1
          try clear p1
          try clear q1
          try clear hx1
          try clear qi1
          try clear p2
          try clear c4
          try clear c4b0
          try clear c4b1
          try clear c5
          try clear c5b0
          try clear c5b1
          try clear c7
          try clear c7b0
          try clear c7b1
          try clear c8
          try clear c8b0
          try clear c8b1
          try clear c10
          try clear c15
          try clear c15b0
          try clear c15b1
          try clear p16
          try clear q16
          try clear hx16
          try clear qi16
          try clear p16
          try clear p2
          try clear q16
          obtain ⟨kq, x6_12, rfl, HA, HJ12, HB⟩ := hcut
          cases kq with
          | zero => exact absurd HA.out (by simp [gangwaylaw08_VxlanFlags.j1])
          | succ kj12 =>
            have H := HA.out
            clear HA
            simp only [gangwaylaw08_VxlanFlags.j1] at H
            by_cases c17 : (x6_12 != (t178 == 0)) = true
            · rw [if_pos c17] at H
              have c17b0 : (x6_12 != (t178 == 0)) = true := c17
              (try (have c17b1 : decide (x6_12 = (t178 == 0)) = false := by simpa using c17))
              (try (have c17b2 : (x6_12 == (t178 == 0)) = false := by simpa using c17))
              (try (have c17b3 : ¬ (x6_12 = (t178 == 0)) := by simpa using c17))
              clear c17
              obtain rfl := Option.some.inj H
              go_wp2
              go_ret
              exact ⟨by first | rfl | (simp [errW_none, errW_some] <;> rfl) | (simp [*, errW_none, errW_some] <;> rfl) | (simp [*, IntKind.wrap_u32]; done) | (simp_all [IntKind.wrap_u32]; done), by repeat (first | (with_reducible first | exact HB.out | apply below_alloc | apply pw_below_drewN | apply below_drew1) | exact HB.out)⟩
            · rw [if_neg c17] at H
              have c17b0 : (x6_12 != (t178 == 0)) = false := by simpa using c17
              (try (have c17b1 : decide (x6_12 = (t178 == 0)) = true := by simpa using c17))
              (try (have c17b2 : (x6_12 == (t178 == 0)) = true := by simpa using c17))
              clear c17
              by_cases c18 : x6_12 = true
              · subst c18
                have H1 : (if t176 ≥ 0 then (if t176 ≤ 16777215 then (if 8 ≤ (x0_1.size : Int) then (if t177.toList = (x0_1.extract 8 x0_1.size).toList then ((gangwaylaw08_fixed.f kj12).bind fun t180 => (gangwaylaw08_VxlanFlags.j2 kj12 t180)) else (gangwaylaw08_VxlanFlags.j2 kj12 false)) else (none)) else (gangwaylaw08_VxlanFlags.j2 kj12 false)) else (gangwaylaw08_VxlanFlags.j2 kj12 false)) = some r := by rw [if_pos rfl] at H; exact H
                clear H
                have H := H1
                clear H1
                have HC19 := Aside0.mk H
                clear H
                go_upto_region 8 with (fail)
                go_cut [2] (fun v2 wc => ∃ (kq : Nat) (x2_18 : Bool), v2 = .bool x2_18 ∧ Aside0 (gangwaylaw08_VxlanFlags.j2 kq x2_18 = some r) ∧ Aside0 (kq ≤ kj12) ∧ Aside0 (Below w.heap.size w wc))
                case first =>
                  have H := HC19.out
                  clear HC19
                  by_cases c20 : t176 ≥ 0
                  · rw [if_pos c20] at H
                    have c20b0 : decide (0 ≤ t176) = true := decide_eq_true c20
                    clear c20
                    (first | rw [c20b0] | (simp only [i64_w, i32_w]; rw [c20b0]) | skip)
                    by_cases c21 : t176 ≤ 16777215
                    · rw [if_pos c21] at H
                      have c21b0 : decide (t176 ≤ 16777215) = true := decide_eq_true c21
                      clear c21
                      by_cases c22 : 8 ≤ (x0_1.size : Int)
                      · rw [if_pos c22] at H
                        have c22b0 := eq_true c22
                        have c22b1 : decide (8 ≤ (x0_1.size : Int)) = true := decide_eq_true c22
                        clear c22
                        by_cases c23 : t177.toList = (x0_1.extract 8 x0_1.size).toList
                        · rw [if_pos c23] at H
                          have c23b0 : (t177.toList == (x0_1.extract 8 x0_1.size).toList) = true := beq_iff_eq.mpr c23
                          have c23b1 : (t177.toList != (x0_1.extract 8 x0_1.size).toList) = false := bne_eq_false_iff_eq.mpr c23
                          clear c23
                          replace H := Option.bind_eq_some_iff.mp H
                          obtain ⟨t180, A240, H⟩ := H
                          replace H : (gangwaylaw08_VxlanFlags.j2 kj12 t180) = some r := H
                          have A24 := Aside0.mk A240
                          clear A240
                          have H' := Aside0.mk H
                          clear H
                          go_wp2_with (first | (go_at_call 12; (with_reducible refine (gangwaylaw08_fixed.calls kj12  t180 _ A24.out).mono ?_); rintro e w25 ⟨rfl, hb⟩; have n0_ := Aside0.mk (below_step (by repeat (first | (with_reducible first | exact HB.out | apply below_alloc | apply pw_below_drewN | apply below_drew1) | exact HB.out)) hb); clear HB; have HB := n0_; clear n0_; (try clear hb); (try clear hb2); (try clear hk); (try clear hi)))
                          go_meet
                          case rel => exact ⟨_, (t180), (by first | rfl | (simp; done) | (simp [*]; done)), H', ⟨by have := HJ1.out; have := HJ12.out; first | omega | exact Nat.le_refl _⟩, ⟨by repeat (first | (with_reducible first | exact HB.out | apply below_alloc | apply pw_below_drewN | apply below_drew1) | exact HB.out)⟩⟩
                        · rw [if_neg c23] at H
                          have c23b0 : (t177.toList == (x0_1.extract 8 x0_1.size).toList) = false := beq_eq_false_iff_ne.mpr c23
                          have c23b1 : (t177.toList != (x0_1.extract 8 x0_1.size).toList) = true := bne_iff_ne.mpr c23
                          have H' := Aside0.mk H
                          clear H
                          go_wp2
                          go_meet
                          case rel => exact ⟨_, (false), (by first | rfl | (simp; done) | (simp [*]; done)), H', ⟨by have := HJ1.out; have := HJ12.out; first | omega | exact Nat.le_refl _⟩, ⟨by repeat (first | (with_reducible first | exact HB.out | apply below_alloc | apply pw_below_drewN | apply below_drew1) | exact HB.out)⟩⟩
                      · rw [if_neg c22] at H
                        exact absurd H (by simp)
                    · rw [if_neg c21] at H
                      have c21b0 : decide (t176 ≤ 16777215) = false := decide_eq_false c21
                      clear c21
                      have H' := Aside0.mk H
                      clear H
                      go_wp2
                      go_meet
                      case rel => exact ⟨_, (false), (by first | rfl | (simp; done) | (simp [*]; done)), H', ⟨by have := HJ1.out; have := HJ12.out; first | omega | exact Nat.le_refl _⟩, ⟨by repeat (first | (with_reducible first | exact HB.out | apply below_alloc | apply pw_below_drewN | apply below_drew1) | exact HB.out)⟩⟩
                  · rw [if_neg c20] at H
                    have c20b0 : decide (0 ≤ t176) = false := decide_eq_false c20
                    clear c20
                    (first | rw [c20b0] | (simp only [i64_w, i32_w]; rw [c20b0]) | skip)
                    have H' := Aside0.mk H
                    clear H
                    go_wp2
                    go_meet
                    case rel => exact ⟨_, (false), (by first | rfl | (simp; done) | (simp [*]; done)), H', ⟨by have := HJ1.out; have := HJ12.out; first | omega | exact Nat.le_refl _⟩, ⟨by repeat (first | (with_reducible first | exact HB.out | apply below_alloc | apply pw_below_drewN | apply below_drew1) | exact HB.out)⟩⟩
                case rest =>
                  clear HC19
                  try clear c1
                  try clear p1
                  try clear q1
                  try clear hx1
                  try clear qi1
                  try clear c2
                  try clear p2
                  try clear c4
                  try clear c4b0
                  try clear c4b1
                  try clear c5
                  try clear c5b0
                  try clear c5b1
                  try clear c7
                  try clear c7b0
                  try clear c7b1
                  try clear c8
                  try clear c8b0
                  try clear c8b1
                  try clear c10
                  try clear c15
                  try clear c15b0
                  try clear c15b1
                  try clear p16
                  try clear q16
                  try clear hx16
                  try clear qi16
                  try clear c17
                  try clear c17b0
                  try clear c17b1
                  try clear c17b2
                  try clear c18
                  try clear c20
                  try clear c20b0
                  try clear c21
                  try clear c21b0
                  try clear c22
                  try clear c22b0
                  try clear c22b1
                  try clear c23
                  try clear c23b0
                  try clear c23b1
                  try clear p1
                  try clear p16
                  try clear p2
                  try clear q1
                  try clear q16
                  obtain ⟨kq, x2_18, rfl, HA, HJ18, HB⟩ := hcut
                  cases kq with
                  | zero => exact absurd HA.out (by simp [gangwaylaw08_VxlanFlags.j2])
                  | succ kj18 =>
                    have H := HA.out
                    clear HA
                    simp only [gangwaylaw08_VxlanFlags.j2] at H
                    obtain rfl := Option.some.inj H
                    go_wp2
                    go_ret
                    exact ⟨by first | rfl | (simp [errW_none, errW_some] <;> rfl) | (simp [*, errW_none, errW_some] <;> rfl) | (simp [*, IntKind.wrap_u32]; done) | (simp_all [IntKind.wrap_u32]; done), by repeat (first | (with_reducible first | exact HB.out | apply below_alloc | apply pw_below_drewN | apply below_drew1) | exact HB.out)⟩
              · replace c18 := Bool.eq_false_iff.mpr c18
                subst c18
                have H1 : (if t178 = 81 then (if t176 = 0 then (if t177.toList = ([] : List UInt8) then ((gangwaylaw08_fixed.f kj12).bind fun t181 => (gangwaylaw08_VxlanFlags.j3 kj12 t181)) else (some false)) else (some false)) else (some false)) = some r := by rw [if_neg (show ¬ (false = true) by decide)] at H; exact H
                clear H
                have H := H1
                clear H1
                by_cases c26 : t178 = 81
                · rw [if_pos c26] at H
                  have c26b0 : (t178 == 81) = true := beq_iff_eq.mpr c26
                  have c26b1 : (t178 != 81) = false := bne_eq_false_iff_eq.mpr c26
                  clear c26
                  by_cases c27 : t176 = 0
                  · rw [if_pos c27] at H
                    have c27b0 : (t176 == 0) = true := beq_iff_eq.mpr c27
                    have c27b1 : (t176 != 0) = false := bne_eq_false_iff_eq.mpr c27
                    clear c27
                    by_cases c28 : t177.toList = ([] : List UInt8)
                    · rw [if_pos c28] at H
                      have c28b0 : (t177.toList == ([] : List UInt8)) = true := beq_iff_eq.mpr c28
                      have c28b1 : (t177.toList != ([] : List UInt8)) = false := bne_eq_false_iff_eq.mpr c28
                      clear c28
                      have HC29 := Aside0.mk H
                      clear H
                      go_upto_region 8 with (fail)
                      go_cut [2] (fun v2 wc => ∃ (kq : Nat) (x2_28 : Bool), v2 = .bool x2_28 ∧ Aside0 (gangwaylaw08_VxlanFlags.j3 kq x2_28 = some r) ∧ Aside0 (kq ≤ kj12) ∧ Aside0 (Below w.heap.size w wc))
                      case first =>
                        have H := HC29.out
                        clear HC29
                        replace H := Option.bind_eq_some_iff.mp H
                        obtain ⟨t181, A300, H⟩ := H
                        replace H : (gangwaylaw08_VxlanFlags.j3 kj12 t181) = some r := H
                        have A30 := Aside0.mk A300
                        clear A300
                        have H' := Aside0.mk H
                        clear H
                        go_wp2_with (first | (go_at_call 12; (with_reducible refine (gangwaylaw08_fixed.calls kj12  t181 _ A30.out).mono ?_); rintro e w31 ⟨rfl, hb⟩; have n0_ := Aside0.mk (below_step (by repeat (first | (with_reducible first | exact HB.out | apply below_alloc | apply pw_below_drewN | apply below_drew1) | exact HB.out)) hb); clear HB; have HB := n0_; clear n0_; (try clear hb); (try clear hb2); (try clear hk); (try clear hi)))
                        go_meet
                        case rel => exact ⟨_, (t181), (by first | rfl | (simp; done) | (simp [*]; done)), H', ⟨by have := HJ1.out; have := HJ12.out; first | omega | exact Nat.le_refl _⟩, ⟨by repeat (first | (with_reducible first | exact HB.out | apply below_alloc | apply pw_below_drewN | apply below_drew1) | exact HB.out)⟩⟩
                      case rest =>
                        clear HC29
                        try clear c1
                        try clear p1
                        try clear q1
                        try clear hx1
                        try clear qi1
                        try clear c2
                        try clear p2
                        try clear c4
                        try clear c4b0
                        try clear c4b1
                        try clear c5
                        try clear c5b0
                        try clear c5b1
                        try clear c7
                        try clear c7b0
                        try clear c7b1
                        try clear c8
                        try clear c8b0
                        try clear c8b1
                        try clear c10
                        try clear c15
                        try clear c15b0
                        try clear c15b1
                        try clear p16
                        try clear q16
                        try clear hx16
                        try clear qi16
                        try clear c17
                        try clear c17b0
                        try clear c17b1
                        try clear c17b2
                        try clear c18
                        try clear c20
                        try clear c20b0
                        try clear c21
                        try clear c21b0
                        try clear c22
                        try clear c22b0
                        try clear c22b1
                        try clear c23
                        try clear c23b0
                        try clear c23b1
                        try clear c26
                        try clear c26b0
                        try clear c26b1
                        try clear c27
                        try clear c27b0
                        try clear c27b1
                        try clear c28
                        try clear c28b0
                        try clear c28b1
                        try clear p1
                        try clear p16
                        try clear p2
                        try clear q1
                        try clear q16
                        obtain ⟨kq, x2_28, rfl, HA, HJ28, HB⟩ := hcut
                        cases kq with
                        | zero => exact absurd HA.out (by simp [gangwaylaw08_VxlanFlags.j3])
                        | succ kj28 =>
                          have H := HA.out
                          clear HA
                          simp only [gangwaylaw08_VxlanFlags.j3] at H
                          obtain rfl := Option.some.inj H
                          go_wp2
                          go_ret
                          exact ⟨by first | rfl | (simp [errW_none, errW_some] <;> rfl) | (simp [*, errW_none, errW_some] <;> rfl) | (simp [*, IntKind.wrap_u32]; done) | (simp_all [IntKind.wrap_u32]; done), by repeat (first | (with_reducible first | exact HB.out | apply below_alloc | apply pw_below_drewN | apply below_drew1) | exact HB.out)⟩
                    · rw [if_neg c28] at H
                      have c28b0 : (t177.toList == ([] : List UInt8)) = false := beq_eq_false_iff_ne.mpr c28
                      have c28b1 : (t177.toList != ([] : List UInt8)) = true := bne_iff_ne.mpr c28
                      obtain rfl := Option.some.inj H
                      go_wp2
                      go_ret
                      exact ⟨by first | rfl | (simp [errW_none, errW_some] <;> rfl) | (simp [*, errW_none, errW_some] <;> rfl) | (simp [*, IntKind.wrap_u32]; done) | (simp_all [IntKind.wrap_u32]; done), by repeat (first | (with_reducible first | exact HB.out | apply below_alloc | apply pw_below_drewN | apply below_drew1) | exact HB.out)⟩
                  · rw [if_neg c27] at H
                    have c27b0 : (t176 == 0) = false := beq_eq_false_iff_ne.mpr c27
                    have c27b1 : (t176 != 0) = true := bne_iff_ne.mpr c27
                    obtain rfl := Option.some.inj H
                    go_wp2
                    go_ret
                    exact ⟨by first | rfl | (simp [errW_none, errW_some] <;> rfl) | (simp [*, errW_none, errW_some] <;> rfl) | (simp [*, IntKind.wrap_u32]; done) | (simp_all [IntKind.wrap_u32]; done), by repeat (first | (with_reducible first | exact HB.out | apply below_alloc | apply pw_below_drewN | apply below_drew1) | exact HB.out)⟩
                · rw [if_neg c26] at H
                  have c26b0 : (t178 == 81) = false := beq_eq_false_iff_ne.mpr c26
                  have c26b1 : (t178 != 81) = true := bne_iff_ne.mpr c26
                  obtain rfl := Option.some.inj H
                  go_wp2
                  go_ret
                  exact ⟨by first | rfl | (simp [errW_none, errW_some] <;> rfl) | (simp [*, errW_none, errW_some] <;> rfl) | (simp [*, IntKind.wrap_u32]; done) | (simp_all [IntKind.wrap_u32]; done), by repeat (first | (with_reducible first | exact HB.out | apply below_alloc | apply pw_below_drewN | apply below_drew1) | exact HB.out)⟩

/-- THE ONE PURE STATEMENT of gangwaylaw08_VxlanFlags: yours. -/
def gangwaylaw08_VxlanFlags.Pure : Prop := ∀ (a0 : ByteArray), a0.size ≤ 140737488351232 → ∃ k, gangwaylaw08_VxlanFlags.f k a0 = some true
theorem gangwaylaw08_VxlanFlags.walk (P : gangwaylaw08_VxlanFlags.Pure) (a0 : ByteArray) (w : World) (w0 : a0.size ≤ 140737488351232) :
    Calls Tryd.prog 7 #[.string a0] w fun e w' => e = .returned (.bool true) ∧ Below w.heap.size w w' := by
  obtain ⟨k, h⟩ := P a0 w0
  refine (gangwaylaw08_VxlanFlags.calls k a0 true w h).mono ?_
  rintro e w' ⟨rfl, hd⟩
  exact ⟨rfl, hd⟩

end Go.Proofs.YthgdphfblajijaaDoor.P
