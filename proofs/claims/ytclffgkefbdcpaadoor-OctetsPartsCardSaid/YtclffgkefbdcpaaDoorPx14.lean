-- Written by wip/hprint.py (this session's program) through the kit's print program; hand contracts are marked 'by hand'.
import Derived.Test.YtclffgkefbdcpaaDoorPx0
import Derived.Test.YtclffgkefbdcpaaDoorPx1
import Derived.Test.YtclffgkefbdcpaaDoorPx7
import Derived.Test.YtclffgkefbdcpaaDoorPx8
namespace Go.Proofs.YtclffgkefbdcpaaDoor.P
open Go.RowKit Go.Proofs.YtclffgkefbdcpaaDoorW.PrintWords Go.Proofs.YtclffgkefbdcpaaDoorW.PrintLast Go.Proofs.YtclffgkefbdcpaaDoorW.PrintMore
attribute [local go_sem] max2_int min2_int max_two min_two max_three min_three max_four min_four   -- for this text's walks alone
set_option linter.unusedVariables false
set_option linter.unusedSimpArgs false

/-! ### gangwaylaw01_OctetsParts: function 6 -/
mutual
def gangwaylaw01_OctetsParts.j0 : Nat → ByteArray → Int → Int → Option (Bool)
  | 0, _, _, _ => none
  | k + 1, x0, x1, x2 => if (wrap64 ((x0.size : Int) + 1)) = 0 then (none) else (gangwaylaw01_OctetsParts.j1 k x0 x2 (Int.tmod (Go.bits .and .i64 x1 65535) (wrap64 ((x0.size : Int) + 1))))
def gangwaylaw01_OctetsParts.j1 : Nat → ByteArray → Int → Int → Option (Bool)
  | 0, _, _, _ => none
  | k + 1, x0, x2, x7 => (octets_Cut.f x0 0 x7).bind fun bt180 => ((octets_Cut.f x0 x7 (wrap64 ((x0.size : Int) - x7))).bind fun bt182 => (gangwaylaw01_OctetsParts.j2 k x0 x2 x7 bt180.1 bt180.2 bt182.1 bt182.2))
def gangwaylaw01_OctetsParts.j2 : Nat → ByteArray → Int → Int → ByteArray → Int → ByteArray → Int → Option (Bool)
  | 0, _, _, _, _, _, _, _ => none
  | k + 1, x0, x2, x7, x8, x9, x10, x11 => (octets_Cut.f x0 x7 (wrap64 ((wrap64 ((x0.size : Int) - x7)) + 1))).bind fun bt184 => (gangwaylaw01_OctetsParts.j3 k x0 x2 x8 x9 x10 x11 bt184.2)
def gangwaylaw01_OctetsParts.j3 : Nat → ByteArray → Int → ByteArray → Int → ByteArray → Int → Int → Option (Bool)
  | 0, _, _, _, _, _, _, _ => none
  | k + 1, x0, x2, x8, x9, x10, x11, x13 => (octets_Put.f k x2 8).bind fun bt186 => ((octets_Get.f k bt186.1 0 4).bind fun bt188 => ((octets_Get.f k bt186.1 4 4).bind fun bt190 => (if x9 = 0 then (if x11 = 0 then (if x8.size + x10.size ≤ 9223372036854775807 then (if (x8 ++ x10).toList = x0.toList then (if x13 = 10 then (if bt186.2 = 0 then (if bt188.2 = 0 then (if bt190.2 = 0 then (if (Go.bits .or .u64 (IntKind.u64.wrap (bt188.1 * 4294967296)) bt190.1) = x2 then ((gangwaylaw01_fixed.f k).bind fun t192 => (gangwaylaw01_OctetsParts.j4 k t192)) else (gangwaylaw01_OctetsParts.j4 k false)) else (gangwaylaw01_OctetsParts.j4 k false)) else (gangwaylaw01_OctetsParts.j4 k false)) else (gangwaylaw01_OctetsParts.j4 k false)) else (gangwaylaw01_OctetsParts.j4 k false)) else (gangwaylaw01_OctetsParts.j4 k false)) else (none)) else (gangwaylaw01_OctetsParts.j4 k false)) else (gangwaylaw01_OctetsParts.j4 k false))))
def gangwaylaw01_OctetsParts.j4 : Nat → Bool → Option (Bool)
  | 0, _ => none
  | k + 1, x6 => some x6
end
def gangwaylaw01_OctetsParts.f (k : Nat) (a0 : ByteArray) (a1 : Int) (a2 : Int) : Option (Bool) := if 0 ≤ (mn (a0.size : Int) 1000) then (if (mn (a0.size : Int) 1000) ≤ (a0.size : Int) then (gangwaylaw01_OctetsParts.j0 k (a0.extract 0 ((mn (a0.size : Int) 1000) : Int).toNat) a1 a2) else (none)) else (none)
theorem gangwaylaw01_OctetsParts.mono_l : ∀ k, (∀ y0 y1 y2, LeO (gangwaylaw01_OctetsParts.j0 k y0 y1 y2) (gangwaylaw01_OctetsParts.j0 (k + 1) y0 y1 y2)) ∧ (∀ y0 y1 y2, LeO (gangwaylaw01_OctetsParts.j1 k y0 y1 y2) (gangwaylaw01_OctetsParts.j1 (k + 1) y0 y1 y2)) ∧ (∀ y0 y1 y2 y3 y4 y5 y6, LeO (gangwaylaw01_OctetsParts.j2 k y0 y1 y2 y3 y4 y5 y6) (gangwaylaw01_OctetsParts.j2 (k + 1) y0 y1 y2 y3 y4 y5 y6)) ∧ (∀ y0 y1 y2 y3 y4 y5 y6, LeO (gangwaylaw01_OctetsParts.j3 k y0 y1 y2 y3 y4 y5 y6) (gangwaylaw01_OctetsParts.j3 (k + 1) y0 y1 y2 y3 y4 y5 y6)) ∧ (∀ y0, LeO (gangwaylaw01_OctetsParts.j4 k y0) (gangwaylaw01_OctetsParts.j4 (k + 1) y0))
  | 0 => ⟨fun _ _ _ r h => by simp [gangwaylaw01_OctetsParts.j0] at h, fun _ _ _ r h => by simp [gangwaylaw01_OctetsParts.j1] at h, fun _ _ _ _ _ _ _ r h => by simp [gangwaylaw01_OctetsParts.j2] at h, fun _ _ _ _ _ _ _ r h => by simp [gangwaylaw01_OctetsParts.j3] at h, fun _ r h => by simp [gangwaylaw01_OctetsParts.j4] at h⟩
  | k + 1 => by
    obtain ⟨ih0, ih1, ih2, ih3, ih4⟩ := gangwaylaw01_OctetsParts.mono_l k
    refine ⟨?_, ?_, ?_, ?_, ?_⟩
    · intro y0 y1 y2
      unfold gangwaylaw01_OctetsParts.j0
      repeat' first
      | (with_reducible exact ih0 _ _ _)
      | (with_reducible exact ih1 _ _ _)
      | (with_reducible exact ih2 _ _ _ _ _ _ _)
      | (with_reducible exact ih3 _ _ _ _ _ _ _)
      | (with_reducible exact ih4 _)
      | (with_reducible exact gangwaylaw01_fixed.mono _)
      | (with_reducible exact octets_Get.mono _ _ _ _)
      | (with_reducible exact octets_Put.mono _ _ _)
      | (with_reducible exact LeO.refl _)
      | (with_reducible exact LeO.none _)
      | (with_reducible refine LeO.ite ?_ ?_)
      | (with_reducible refine LeO.bind ?_ (fun _ => ?_))
      | exact ih0 _ _ _
      | exact ih1 _ _ _
      | exact ih2 _ _ _ _ _ _ _
      | exact ih3 _ _ _ _ _ _ _
      | exact ih4 _
      | exact gangwaylaw01_fixed.mono _
      | exact octets_Get.mono _ _ _ _
      | exact octets_Put.mono _ _ _
      | exact LeO.none _
      | refine LeO.ite ?_ ?_
      | refine LeO.bind ?_ (fun _ => ?_)
    · intro y0 y1 y2
      unfold gangwaylaw01_OctetsParts.j1
      repeat' first
      | (with_reducible exact ih0 _ _ _)
      | (with_reducible exact ih1 _ _ _)
      | (with_reducible exact ih2 _ _ _ _ _ _ _)
      | (with_reducible exact ih3 _ _ _ _ _ _ _)
      | (with_reducible exact ih4 _)
      | (with_reducible exact gangwaylaw01_fixed.mono _)
      | (with_reducible exact octets_Get.mono _ _ _ _)
      | (with_reducible exact octets_Put.mono _ _ _)
      | (with_reducible exact LeO.refl _)
      | (with_reducible exact LeO.none _)
      | (with_reducible refine LeO.ite ?_ ?_)
      | (with_reducible refine LeO.bind ?_ (fun _ => ?_))
      | exact ih0 _ _ _
      | exact ih1 _ _ _
      | exact ih2 _ _ _ _ _ _ _
      | exact ih3 _ _ _ _ _ _ _
      | exact ih4 _
      | exact gangwaylaw01_fixed.mono _
      | exact octets_Get.mono _ _ _ _
      | exact octets_Put.mono _ _ _
      | exact LeO.none _
      | refine LeO.ite ?_ ?_
      | refine LeO.bind ?_ (fun _ => ?_)
    · intro y0 y1 y2 y3 y4 y5 y6
      unfold gangwaylaw01_OctetsParts.j2
      repeat' first
      | (with_reducible exact ih0 _ _ _)
      | (with_reducible exact ih1 _ _ _)
      | (with_reducible exact ih2 _ _ _ _ _ _ _)
      | (with_reducible exact ih3 _ _ _ _ _ _ _)
      | (with_reducible exact ih4 _)
      | (with_reducible exact gangwaylaw01_fixed.mono _)
      | (with_reducible exact octets_Get.mono _ _ _ _)
      | (with_reducible exact octets_Put.mono _ _ _)
      | (with_reducible exact LeO.refl _)
      | (with_reducible exact LeO.none _)
      | (with_reducible refine LeO.ite ?_ ?_)
      | (with_reducible refine LeO.bind ?_ (fun _ => ?_))
      | exact ih0 _ _ _
      | exact ih1 _ _ _
      | exact ih2 _ _ _ _ _ _ _
      | exact ih3 _ _ _ _ _ _ _
      | exact ih4 _
      | exact gangwaylaw01_fixed.mono _
      | exact octets_Get.mono _ _ _ _
      | exact octets_Put.mono _ _ _
      | exact LeO.none _
      | refine LeO.ite ?_ ?_
      | refine LeO.bind ?_ (fun _ => ?_)
    · intro y0 y1 y2 y3 y4 y5 y6
      unfold gangwaylaw01_OctetsParts.j3
      repeat' first
      | (with_reducible exact ih0 _ _ _)
      | (with_reducible exact ih1 _ _ _)
      | (with_reducible exact ih2 _ _ _ _ _ _ _)
      | (with_reducible exact ih3 _ _ _ _ _ _ _)
      | (with_reducible exact ih4 _)
      | (with_reducible exact gangwaylaw01_fixed.mono _)
      | (with_reducible exact octets_Get.mono _ _ _ _)
      | (with_reducible exact octets_Put.mono _ _ _)
      | (with_reducible exact LeO.refl _)
      | (with_reducible exact LeO.none _)
      | (with_reducible refine LeO.ite ?_ ?_)
      | (with_reducible refine LeO.bind ?_ (fun _ => ?_))
      | exact ih0 _ _ _
      | exact ih1 _ _ _
      | exact ih2 _ _ _ _ _ _ _
      | exact ih3 _ _ _ _ _ _ _
      | exact ih4 _
      | exact gangwaylaw01_fixed.mono _
      | exact octets_Get.mono _ _ _ _
      | exact octets_Put.mono _ _ _
      | exact LeO.none _
      | refine LeO.ite ?_ ?_
      | refine LeO.bind ?_ (fun _ => ?_)
    · intro y0
      unfold gangwaylaw01_OctetsParts.j4
      repeat' first
      | (with_reducible exact ih0 _ _ _)
      | (with_reducible exact ih1 _ _ _)
      | (with_reducible exact ih2 _ _ _ _ _ _ _)
      | (with_reducible exact ih3 _ _ _ _ _ _ _)
      | (with_reducible exact ih4 _)
      | (with_reducible exact gangwaylaw01_fixed.mono _)
      | (with_reducible exact octets_Get.mono _ _ _ _)
      | (with_reducible exact octets_Put.mono _ _ _)
      | (with_reducible exact LeO.refl _)
      | (with_reducible exact LeO.none _)
      | (with_reducible refine LeO.ite ?_ ?_)
      | (with_reducible refine LeO.bind ?_ (fun _ => ?_))
      | exact ih0 _ _ _
      | exact ih1 _ _ _
      | exact ih2 _ _ _ _ _ _ _
      | exact ih3 _ _ _ _ _ _ _
      | exact ih4 _
      | exact gangwaylaw01_fixed.mono _
      | exact octets_Get.mono _ _ _ _
      | exact octets_Put.mono _ _ _
      | exact LeO.none _
      | refine LeO.ite ?_ ?_
      | refine LeO.bind ?_ (fun _ => ?_)
theorem gangwaylaw01_OctetsParts.mono : ∀ a0 a1 a2 k, LeO (gangwaylaw01_OctetsParts.f k a0 a1 a2) (gangwaylaw01_OctetsParts.f (k + 1) a0 a1 a2) := by
  intro a0 a1 a2 k
  obtain ⟨ih0, ih1, ih2, ih3, ih4⟩ := gangwaylaw01_OctetsParts.mono_l k
  unfold gangwaylaw01_OctetsParts.f
  repeat' first
      | (with_reducible exact ih0 _ _ _)
      | (with_reducible exact ih1 _ _ _)
      | (with_reducible exact ih2 _ _ _ _ _ _ _)
      | (with_reducible exact ih3 _ _ _ _ _ _ _)
      | (with_reducible exact ih4 _)
      | (with_reducible exact gangwaylaw01_fixed.mono _)
      | (with_reducible exact octets_Get.mono _ _ _ _)
      | (with_reducible exact octets_Put.mono _ _ _)
      | (with_reducible exact LeO.refl _)
      | (with_reducible exact LeO.none _)
      | (with_reducible refine LeO.ite ?_ ?_)
      | (with_reducible refine LeO.bind ?_ (fun _ => ?_))
      | exact ih0 _ _ _
      | exact ih1 _ _ _
      | exact ih2 _ _ _ _ _ _ _
      | exact ih3 _ _ _ _ _ _ _
      | exact ih4 _
      | exact gangwaylaw01_fixed.mono _
      | exact octets_Get.mono _ _ _ _
      | exact octets_Put.mono _ _ _
      | exact LeO.none _
      | refine LeO.ite ?_ ?_
      | refine LeO.bind ?_ (fun _ => ?_)
set_option maxHeartbeats 8000000 in
set_option maxRecDepth 100000 in
theorem gangwaylaw01_OctetsParts.calls (k : Nat) (a0 : ByteArray) (a1 : Int) (a2 : Int) (r : Bool) (w : World) (hL : Laid w) (h : gangwaylaw01_OctetsParts.f k a0 a1 a2 = some r) :
    Calls Tryd.prog 6 #[.string a0, .int .i64 a1, .int .u64 a2] w fun e w' => e = .returned (.bool r) ∧ Below w.heap.size w w' := by
  have HLD := Aside0.mk hL
  clear hL
  have HB := Aside0.mk (Below.refl w.heap.size w)
  have H : (if 0 ≤ (mn (a0.size : Int) 1000) then (if (mn (a0.size : Int) 1000) ≤ (a0.size : Int) then (gangwaylaw01_OctetsParts.j0 k (a0.extract 0 ((mn (a0.size : Int) 1000) : Int).toNat) a1 a2) else (none)) else (none)) = some r := h
  clear h
  have HC4 := Aside0.mk H
  clear H
  go_enter Tryd.func6, Tryd.ntmps6
  go_upto_region 1 with (fail)
  go_cut [0] (fun v0 wc => ∃ (kq : Nat) (x0_3 : ByteArray), v0 = .string x0_3 ∧ Aside0 (gangwaylaw01_OctetsParts.j0 kq x0_3 a1 a2 = some r) ∧ Aside0 (kq ≤ k) ∧ Aside0 (Below w.heap.size w wc))
  case first =>
    have H := HC4.out
    clear HC4
    obtain ⟨ji5, hji5⟩ : ∃ j_ : Int, (mn (a0.size : Int) 1000) = j_ := ⟨_, rfl⟩
    replace H : (if 0 ≤ (ji5) then (if (ji5) ≤ (a0.size : Int) then (gangwaylaw01_OctetsParts.j0 k (a0.extract 0 ((ji5) : Int).toNat) a1 a2) else (none)) else (none)) = some r := by first | (rw [hji5] at H; exact H) | (simp only [hji5] at H ⊢; exact H)
    (try (have hji5h : ji5 ≤ 1000 := by (rw [← hji5]; unfold mn; (repeat' split) <;> omega)))
    (try (have hji5g : ji5 ≤ 64 := by omega))
    (try (have hji5l : 0 ≤ ji5 := by (rw [← hji5]; unfold mn; (repeat' split) <;> omega)))
    (try (have hji5m : 0 ≤ ji5 := by omega))
    have hji5_ : (if 1000 < (a0.size : Int) then 1000 else (a0.size : Int)) = ji5 := hji5
    by_cases c6 : 0 ≤ (ji5)
    · rw [if_pos c6] at H
      have c6b0 := eq_true c6
      have c6b1 : decide (0 ≤ (ji5)) = true := decide_eq_true c6
      clear c6
      by_cases c7 : (ji5) ≤ (a0.size : Int)
      · rw [if_pos c7] at H
        have c7b0 := eq_true c7
        have c7b1 : decide ((ji5) ≤ (a0.size : Int)) = true := decide_eq_true c7
        clear c7
        have H' := Aside0.mk H
        clear H
        go_wp2
        go_meet
        case rel => exact ⟨_, (a0.extract 0 ((ji5) : Int).toNat), (by first | rfl | (simp; done) | (simp only [← hji5] <;> (first | rfl | simp)) | (simp [*]; done)), H', ⟨by first | omega | exact Nat.le_refl _⟩, ⟨by repeat (first | (with_reducible first | exact HB.out | apply below_alloc | apply pw_below_drewN | apply below_drew1) | exact HB.out)⟩⟩
      · rw [if_neg c7] at H
        exact absurd H (by simp)
    · rw [if_neg c6] at H
      exact absurd H (by simp)
  case rest =>
    clear HC4
    try clear p2
    try clear c6
    try clear c6b0
    try clear c6b1
    try clear c7
    try clear c7b0
    try clear c7b1
    obtain ⟨kq, x0_3, rfl, HA, HJ3, HB⟩ := hcut
    cases kq with
    | zero => exact absurd HA.out (by simp [gangwaylaw01_OctetsParts.j0])
    | succ kj3 =>
      have H := HA.out
      clear HA
      simp only [gangwaylaw01_OctetsParts.j0] at H
      have HC8 := Aside0.mk H
      clear H
      go_upto_region 2 with (fail)
      go_cut [7] (fun v7 wc => ∃ (kq : Nat) (x7_7 : Int), v7 = .int .i64 x7_7 ∧ Aside0 (gangwaylaw01_OctetsParts.j1 kq x0_3 a2 x7_7 = some r) ∧ Aside0 (kq ≤ kj3) ∧ Aside0 (Below w.heap.size w wc))
      case first =>
        have H := HC8.out
        clear HC8
        by_cases c9 : (wrap64 ((x0_3.size : Int) + 1)) = 0
        · rw [if_pos c9] at H
          exact absurd H (by simp)
        · rw [if_neg c9] at H
          have c9b0 : ((wrap64 ((x0_3.size : Int) + 1)) == 0) = false := beq_eq_false_iff_ne.mpr c9
          have c9b1 : ((wrap64 ((x0_3.size : Int) + 1)) != 0) = true := bne_iff_ne.mpr c9
          (first | rw [c9b0] | (simp only [i64_w, i32_w]; rw [c9b0]) | skip)
          have H' := Aside0.mk H
          clear H
          go_wp2
          go_meet
          case rel => exact ⟨_, (Int.tmod (Go.bits .and .i64 a1 65535) (wrap64 ((x0_3.size : Int) + 1))), (by first | rfl | (simp; done) | (simp [*]; done)), H', ⟨by have := HJ3.out; first | omega | exact Nat.le_refl _⟩, ⟨by repeat (first | (with_reducible first | exact HB.out | apply below_alloc | apply pw_below_drewN | apply below_drew1) | exact HB.out)⟩⟩
      case rest =>
        clear HC8
        try clear p2
        try clear c6
        try clear c6b0
        try clear c6b1
        try clear p6
        try clear c7
        try clear c7b0
        try clear c7b1
        try clear c9
        try clear c9b0
        try clear c9b1
        try clear p2
        obtain ⟨kq, x7_7, rfl, HA, HJ7, HB⟩ := hcut
        cases kq with
        | zero => exact absurd HA.out (by simp [gangwaylaw01_OctetsParts.j1])
        | succ kj7 =>
          have H := HA.out
          clear HA
          simp only [gangwaylaw01_OctetsParts.j1] at H
          replace H := Option.bind_eq_some_iff.mp H
          obtain ⟨⟨t180, t181⟩, A100, H⟩ := H
          replace H : ((octets_Cut.f x0_3 x7_7 (wrap64 ((x0_3.size : Int) - x7_7))).bind fun bt182 => (gangwaylaw01_OctetsParts.j2 kj7 x0_3 a2 x7_7 t180 t181 bt182.1 bt182.2)) = some r := H
          have A10 := Aside0.mk A100
          clear A100
          have HC11 := Aside0.mk H
          clear H
          go_upto_region 4 with (first | ((with_reducible refine gate_callee (f := 17) rfl ?_); refine goesL_ (some 34) rfl rfl Tryd.func17 (by kernel_rfl) rfl #[.string x0_3, .int .i64 0, .int .i64 x7_7] rfl (by (try simp only [List.map_toArray, List.map_cons, List.map_nil]); first | done | rfl | (simp only [List.length_drop, List.length_take]; rfl)) ?_; (with_reducible refine (octets_Cut.calls x0_3 0 x7_7 t180 t181 _ ?sideL A10.out).mono ?_); (case sideL => exact laid_below HLD.out (by repeat (first | (with_reducible first | exact HB.out | apply below_alloc | apply pw_below_drewN | apply below_drew1) | exact HB.out))); rintro e w12 ⟨rfl, hb⟩; refine ⟨_, rfl, ?_⟩; have n0_ := Aside0.mk (below_step (by repeat (first | (with_reducible first | exact HB.out | apply below_alloc | apply pw_below_drewN | apply below_drew1) | exact HB.out)) hb); clear HB; have HB := n0_; clear n0_; (try clear hb); (try clear hb2); (try clear hk); (try clear hi)))
          (try simp only [Act.put, List.setIfInBounds_toArray, List.set_cons_zero, List.set_cons_succ])
          go_cut [10, 11] (fun v10 v11 wc => ∃ (kq : Nat) (x10_10 : ByteArray) (x11_10 : Int), v10 = .string x10_10 ∧ v11 = .int .i64 x11_10 ∧ Aside0 (gangwaylaw01_OctetsParts.j2 kq x0_3 a2 x7_7 t180 t181 x10_10 x11_10 = some r) ∧ Aside0 (kq ≤ kj7) ∧ Aside0 (Below w.heap.size w wc))
          case first =>
            have H := HC11.out
            clear HC11
            replace H := Option.bind_eq_some_iff.mp H
            obtain ⟨⟨t182, t183⟩, A130, H⟩ := H
            replace H : (gangwaylaw01_OctetsParts.j2 kj7 x0_3 a2 x7_7 t180 t181 t182 t183) = some r := H
            have A13 := Aside0.mk A130
            clear A130
            have H' := Aside0.mk H
            clear H
            go_wp2_with (first | ((with_reducible refine gate_callee (f := 17) rfl ?_); refine goesL_ (some 44) rfl rfl Tryd.func17 (by kernel_rfl) rfl #[.string x0_3, .int .i64 x7_7, .int .i64 (wrap64 ((x0_3.size : Int) - x7_7))] rfl (by (try simp only [List.map_toArray, List.map_cons, List.map_nil]); first | done | rfl | (simp only [List.length_drop, List.length_take]; rfl)) ?_; (with_reducible refine (octets_Cut.calls x0_3 x7_7 (wrap64 ((x0_3.size : Int) - x7_7)) t182 t183 _ ?sideL A13.out).mono ?_); (case sideL => exact laid_below HLD.out (by repeat (first | (with_reducible first | exact HB.out | apply below_alloc | apply pw_below_drewN | apply below_drew1) | exact HB.out))); rintro e w14 ⟨rfl, hb⟩; refine ⟨_, rfl, ?_⟩; have n0_ := Aside0.mk (below_step (by repeat (first | (with_reducible first | exact HB.out | apply below_alloc | apply pw_below_drewN | apply below_drew1) | exact HB.out)) hb); clear HB; have HB := n0_; clear n0_; (try clear hb); (try clear hb2); (try clear hk); (try clear hi)))
            go_meet
            case rel => exact ⟨_, (t182), (t183), (by first | rfl | (simp; done) | (simp [*]; done)), (by first | rfl | (simp; done) | (simp [*]; done)), H', ⟨by have := HJ3.out; have := HJ7.out; first | omega | exact Nat.le_refl _⟩, ⟨by repeat (first | (with_reducible first | exact HB.out | apply below_alloc | apply pw_below_drewN | apply below_drew1) | exact HB.out)⟩⟩
          case rest =>
            clear HC11
            try clear c1
            try clear p2
            try clear c6
            try clear c6b0
            try clear c6b1
            try clear p6
            try clear c7
            try clear c7b0
            try clear c7b1
            try clear c9
            try clear c9b0
            try clear c9b1
            try clear p2
            try clear p6
            obtain ⟨kq, x10_10, x11_10, rfl, rfl, HA, HJ10, HB⟩ := hcut
            cases kq with
            | zero => exact absurd HA.out (by simp [gangwaylaw01_OctetsParts.j2])
            | succ kj10 =>
              have H := HA.out
              clear HA
              simp only [gangwaylaw01_OctetsParts.j2] at H
              have HC15 := Aside0.mk H
              clear H
              go_upto_region 5 with (fail)
              go_cut [13] (fun v13 wc => ∃ (kq : Nat) (x13_14 : Int), v13 = .int .i64 x13_14 ∧ Aside0 (gangwaylaw01_OctetsParts.j3 kq x0_3 a2 t180 t181 x10_10 x11_10 x13_14 = some r) ∧ Aside0 (kq ≤ kj10) ∧ Aside0 (Below w.heap.size w wc))
              case first =>
                have H := HC15.out
                clear HC15
                replace H := Option.bind_eq_some_iff.mp H
                obtain ⟨⟨t184, t185⟩, A160, H⟩ := H
                replace H : (gangwaylaw01_OctetsParts.j3 kj10 x0_3 a2 t180 t181 x10_10 x11_10 t185) = some r := H
                have A16 := Aside0.mk A160
                clear A160
                have H' := Aside0.mk H
                clear H
                go_wp2_with (first | ((with_reducible refine gate_callee (f := 17) rfl ?_); refine goesL_ (some 55) rfl rfl Tryd.func17 (by kernel_rfl) rfl #[.string x0_3, .int .i64 x7_7, .int .i64 (wrap64 ((wrap64 ((x0_3.size : Int) - x7_7)) + 1))] rfl (by (try simp only [List.map_toArray, List.map_cons, List.map_nil]); first | done | rfl | (simp only [List.length_drop, List.length_take]; rfl)) ?_; (with_reducible refine (octets_Cut.calls x0_3 x7_7 (wrap64 ((wrap64 ((x0_3.size : Int) - x7_7)) + 1)) t184 t185 _ ?sideL A16.out).mono ?_); (case sideL => exact laid_below HLD.out (by repeat (first | (with_reducible first | exact HB.out | apply below_alloc | apply pw_below_drewN | apply below_drew1) | exact HB.out))); rintro e w17 ⟨rfl, hb⟩; refine ⟨_, rfl, ?_⟩; have n0_ := Aside0.mk (below_step (by repeat (first | (with_reducible first | exact HB.out | apply below_alloc | apply pw_below_drewN | apply below_drew1) | exact HB.out)) hb); clear HB; have HB := n0_; clear n0_; (try clear hb); (try clear hb2); (try clear hk); (try clear hi)))
                go_meet
                case rel => exact ⟨_, (t185), (by first | rfl | (simp; done) | (simp [*]; done)), H', ⟨by have := HJ3.out; have := HJ7.out; have := HJ10.out; first | omega | exact Nat.le_refl _⟩, ⟨by repeat (first | (with_reducible first | exact HB.out | apply below_alloc | apply pw_below_drewN | apply below_drew1) | exact HB.out)⟩⟩
              case rest =>
                clear HC15
                try clear c1
                try clear p2
                try clear c6
                try clear c6b0
                try clear c6b1
                try clear p6
                try clear c7
                try clear c7b0
                try clear c7b1
                try clear c9
                try clear c9b0
                try clear c9b1
                try clear c17
                try clear p2
                try clear p6
                obtain ⟨kq, x13_14, rfl, HA, HJ14, HB⟩ := hcut
                cases kq with
                | zero => exact absurd HA.out (by simp [gangwaylaw01_OctetsParts.j3])
                | succ kj14 =>
                  have H := HA.out
                  clear HA
                  simp only [gangwaylaw01_OctetsParts.j3] at H
                  replace H := Option.bind_eq_some_iff.mp H
                  obtain ⟨⟨t186, t187⟩, A180, H⟩ := H
                  replace H : ((octets_Get.f kj14 t186 0 4).bind fun bt188 => ((octets_Get.f kj14 t186 4 4).bind fun bt190 => (if t181 = 0 then (if x11_10 = 0 then (if t180.size + x10_10.size ≤ 9223372036854775807 then (if (t180 ++ x10_10).toList = x0_3.toList then (if x13_14 = 10 then (if t187 = 0 then (if bt188.2 = 0 then (if bt190.2 = 0 then (if (Go.bits .or .u64 (IntKind.u64.wrap (bt188.1 * 4294967296)) bt190.1) = a2 then ((gangwaylaw01_fixed.f kj14).bind fun t192 => (gangwaylaw01_OctetsParts.j4 kj14 t192)) else (gangwaylaw01_OctetsParts.j4 kj14 false)) else (gangwaylaw01_OctetsParts.j4 kj14 false)) else (gangwaylaw01_OctetsParts.j4 kj14 false)) else (gangwaylaw01_OctetsParts.j4 kj14 false)) else (gangwaylaw01_OctetsParts.j4 kj14 false)) else (gangwaylaw01_OctetsParts.j4 kj14 false)) else (none)) else (gangwaylaw01_OctetsParts.j4 kj14 false)) else (gangwaylaw01_OctetsParts.j4 kj14 false)))) = some r := H
                  have A18 := Aside0.mk A180
                  clear A180
                  replace H := Option.bind_eq_some_iff.mp H
                  obtain ⟨⟨t188, t189⟩, A190, H⟩ := H
                  replace H : ((octets_Get.f kj14 t186 4 4).bind fun bt190 => (if t181 = 0 then (if x11_10 = 0 then (if t180.size + x10_10.size ≤ 9223372036854775807 then (if (t180 ++ x10_10).toList = x0_3.toList then (if x13_14 = 10 then (if t187 = 0 then (if t189 = 0 then (if bt190.2 = 0 then (if (Go.bits .or .u64 (IntKind.u64.wrap (t188 * 4294967296)) bt190.1) = a2 then ((gangwaylaw01_fixed.f kj14).bind fun t192 => (gangwaylaw01_OctetsParts.j4 kj14 t192)) else (gangwaylaw01_OctetsParts.j4 kj14 false)) else (gangwaylaw01_OctetsParts.j4 kj14 false)) else (gangwaylaw01_OctetsParts.j4 kj14 false)) else (gangwaylaw01_OctetsParts.j4 kj14 false)) else (gangwaylaw01_OctetsParts.j4 kj14 false)) else (gangwaylaw01_OctetsParts.j4 kj14 false)) else (none)) else (gangwaylaw01_OctetsParts.j4 kj14 false)) else (gangwaylaw01_OctetsParts.j4 kj14 false))) = some r := H
                  have A19 := Aside0.mk A190
                  clear A190
                  replace H := Option.bind_eq_some_iff.mp H
                  obtain ⟨⟨t190, t191⟩, A200, H⟩ := H
                  replace H : (if t181 = 0 then (if x11_10 = 0 then (if t180.size + x10_10.size ≤ 9223372036854775807 then (if (t180 ++ x10_10).toList = x0_3.toList then (if x13_14 = 10 then (if t187 = 0 then (if t189 = 0 then (if t191 = 0 then (if (Go.bits .or .u64 (IntKind.u64.wrap (t188 * 4294967296)) t190) = a2 then ((gangwaylaw01_fixed.f kj14).bind fun t192 => (gangwaylaw01_OctetsParts.j4 kj14 t192)) else (gangwaylaw01_OctetsParts.j4 kj14 false)) else (gangwaylaw01_OctetsParts.j4 kj14 false)) else (gangwaylaw01_OctetsParts.j4 kj14 false)) else (gangwaylaw01_OctetsParts.j4 kj14 false)) else (gangwaylaw01_OctetsParts.j4 kj14 false)) else (gangwaylaw01_OctetsParts.j4 kj14 false)) else (none)) else (gangwaylaw01_OctetsParts.j4 kj14 false)) else (gangwaylaw01_OctetsParts.j4 kj14 false)) = some r := H
                  have A20 := Aside0.mk A200
                  clear A200
                  have HC21 := Aside0.mk H
                  clear H
                  go_upto_region 9 with (first | ((with_reducible refine gate_callee (f := 9) rfl ?_); refine goesL_ (some 60) rfl rfl Tryd.func9 (by kernel_rfl) rfl #[.int .u64 a2, .int .i64 8] rfl (by (try simp only [List.map_toArray, List.map_cons, List.map_nil]); first | done | rfl | (simp only [List.length_drop, List.length_take]; rfl)) ?_; (with_reducible refine (octets_Put.calls kj14 a2 8 t186 t187 _ A18.out).mono ?_); rintro e w22 ⟨rfl, hb⟩; refine ⟨_, rfl, ?_⟩; have n0_ := Aside0.mk (below_step (by repeat (first | (with_reducible first | exact HB.out | apply below_alloc | apply pw_below_drewN | apply below_drew1) | exact HB.out)) hb); clear HB; have HB := n0_; clear n0_; (try clear hb); (try clear hb2); (try clear hk); (try clear hi)) | ((with_reducible refine gate_callee (f := 16) rfl ?_); refine goesL_ (some 65) rfl rfl Tryd.func16 (by kernel_rfl) rfl #[.string t186, .int .i64 0, .int .i64 4] rfl (by (try simp only [List.map_toArray, List.map_cons, List.map_nil]); first | done | rfl | (simp only [List.length_drop, List.length_take]; rfl)) ?_; (with_reducible refine (octets_Get.calls kj14 t186 0 4 t188 t189 _ ?sideL A19.out).mono ?_); (case sideL => exact laid_below HLD.out (by repeat (first | (with_reducible first | exact HB.out | apply below_alloc | apply pw_below_drewN | apply below_drew1) | exact HB.out))); rintro e w23 ⟨rfl, hb⟩; refine ⟨_, rfl, ?_⟩; have n0_ := Aside0.mk (below_step (by repeat (first | (with_reducible first | exact HB.out | apply below_alloc | apply pw_below_drewN | apply below_drew1) | exact HB.out)) hb); clear HB; have HB := n0_; clear n0_; (try clear hb); (try clear hb2); (try clear hk); (try clear hi)) | ((with_reducible refine gate_callee (f := 16) rfl ?_); refine goesL_ (some 70) rfl rfl Tryd.func16 (by kernel_rfl) rfl #[.string t186, .int .i64 4, .int .i64 4] rfl (by (try simp only [List.map_toArray, List.map_cons, List.map_nil]); first | done | rfl | (simp only [List.length_drop, List.length_take]; rfl)) ?_; (with_reducible refine (octets_Get.calls kj14 t186 4 4 t190 t191 _ ?sideL A20.out).mono ?_); (case sideL => exact laid_below HLD.out (by repeat (first | (with_reducible first | exact HB.out | apply below_alloc | apply pw_below_drewN | apply below_drew1) | exact HB.out))); rintro e w24 ⟨rfl, hb⟩; refine ⟨_, rfl, ?_⟩; have n0_ := Aside0.mk (below_step (by repeat (first | (with_reducible first | exact HB.out | apply below_alloc | apply pw_below_drewN | apply below_drew1) | exact HB.out)) hb); clear HB; have HB := n0_; clear n0_; (try clear hb); (try clear hb2); (try clear hk); (try clear hi)))
                  (try simp only [Act.put, List.setIfInBounds_toArray, List.set_cons_zero, List.set_cons_succ])
                  go_cut [6] (fun v6 wc => ∃ (kq : Nat) (x6_20 : Bool), v6 = .bool x6_20 ∧ Aside0 (gangwaylaw01_OctetsParts.j4 kq x6_20 = some r) ∧ Aside0 (kq ≤ kj14) ∧ Aside0 (Below w.heap.size w wc))
                  case first =>
                    have H := HC21.out
                    clear HC21
                    by_cases c25 : t181 = 0
                    · rw [if_pos c25] at H
                      have c25b0 : (t181 == 0) = true := beq_iff_eq.mpr c25
                      have c25b1 : (t181 != 0) = false := bne_eq_false_iff_eq.mpr c25
                      clear c25
                      (first | rw [c25b0] | (simp only [i64_w, i32_w]; rw [c25b0]) | skip)
                      by_cases c26 : x11_10 = 0
                      · rw [if_pos c26] at H
                        have c26b0 : (x11_10 == 0) = true := beq_iff_eq.mpr c26
                        have c26b1 : (x11_10 != 0) = false := bne_eq_false_iff_eq.mpr c26
                        clear c26
                        by_cases c27 : t180.size + x10_10.size ≤ 9223372036854775807
                        · rw [if_pos c27] at H
                          have c27b0 := eq_true c27
                          have c27b1 : decide (t180.size + x10_10.size ≤ 9223372036854775807) = true := decide_eq_true c27
                          try have c27b2 : (9223372036854775807 < t180.size + x10_10.size) = False := eq_false (Nat.not_lt.2 c27)
                          by_cases c28 : (t180 ++ x10_10).toList = x0_3.toList
                          · rw [if_pos c28] at H
                            have c28b0 : ((t180 ++ x10_10).toList == x0_3.toList) = true := beq_iff_eq.mpr c28
                            have c28b1 : ((t180 ++ x10_10).toList != x0_3.toList) = false := bne_eq_false_iff_eq.mpr c28
                            clear c28
                            by_cases c29 : x13_14 = 10
                            · rw [if_pos c29] at H
                              have c29b0 : (x13_14 == 10) = true := beq_iff_eq.mpr c29
                              have c29b1 : (x13_14 != 10) = false := bne_eq_false_iff_eq.mpr c29
                              clear c29
                              by_cases c30 : t187 = 0
                              · rw [if_pos c30] at H
                                have c30b0 : (t187 == 0) = true := beq_iff_eq.mpr c30
                                have c30b1 : (t187 != 0) = false := bne_eq_false_iff_eq.mpr c30
                                clear c30
                                by_cases c31 : t189 = 0
                                · rw [if_pos c31] at H
                                  have c31b0 : (t189 == 0) = true := beq_iff_eq.mpr c31
                                  have c31b1 : (t189 != 0) = false := bne_eq_false_iff_eq.mpr c31
                                  clear c31
                                  by_cases c32 : t191 = 0
                                  · rw [if_pos c32] at H
                                    have c32b0 : (t191 == 0) = true := beq_iff_eq.mpr c32
                                    have c32b1 : (t191 != 0) = false := bne_eq_false_iff_eq.mpr c32
                                    clear c32
                                    by_cases c33 : (Go.bits .or .u64 (IntKind.u64.wrap (t188 * 4294967296)) t190) = a2
                                    · rw [if_pos c33] at H
                                      have c33b0 : ((Go.bits .or .u64 (IntKind.u64.wrap (t188 * 4294967296)) t190) == a2) = true := beq_iff_eq.mpr c33
                                      have c33b1 : ((Go.bits .or .u64 (IntKind.u64.wrap (t188 * 4294967296)) t190) != a2) = false := bne_eq_false_iff_eq.mpr c33
                                      clear c33
                                      replace H := Option.bind_eq_some_iff.mp H
                                      obtain ⟨t192, A340, H⟩ := H
                                      replace H : (gangwaylaw01_OctetsParts.j4 kj14 t192) = some r := H
                                      have A34 := Aside0.mk A340
                                      clear A340
                                      have H' := Aside0.mk H
                                      clear H
                                      go_wp2_with (first | (go_at_call 11; (with_reducible refine (gangwaylaw01_fixed.calls kj14  t192 _ ?sideL A34.out).mono ?_); (case sideL => exact laid_below HLD.out (by repeat (first | (with_reducible first | exact HB.out | apply below_alloc | apply pw_below_drewN | apply below_drew1) | exact HB.out))); rintro e w35 ⟨rfl, hb⟩; have n0_ := Aside0.mk (below_step (by repeat (first | (with_reducible first | exact HB.out | apply below_alloc | apply pw_below_drewN | apply below_drew1) | exact HB.out)) hb); clear HB; have HB := n0_; clear n0_; (try clear hb); (try clear hb2); (try clear hk); (try clear hi)))
                                      go_meet
                                      case rel => exact ⟨_, (t192), (by first | rfl | (simp; done) | (simp [*]; done)), H', ⟨by have := HJ3.out; have := HJ7.out; have := HJ10.out; have := HJ14.out; first | omega | exact Nat.le_refl _⟩, ⟨by repeat (first | (with_reducible first | exact HB.out | apply below_alloc | apply pw_below_drewN | apply below_drew1) | exact HB.out)⟩⟩
                                    · rw [if_neg c33] at H
                                      have c33b0 : ((Go.bits .or .u64 (IntKind.u64.wrap (t188 * 4294967296)) t190) == a2) = false := beq_eq_false_iff_ne.mpr c33
                                      have c33b1 : ((Go.bits .or .u64 (IntKind.u64.wrap (t188 * 4294967296)) t190) != a2) = true := bne_iff_ne.mpr c33
                                      have H' := Aside0.mk H
                                      clear H
                                      go_wp2
                                      go_meet
                                      case rel => exact ⟨_, (false), (by first | rfl | (simp; done) | (simp [*]; done)), H', ⟨by have := HJ3.out; have := HJ7.out; have := HJ10.out; have := HJ14.out; first | omega | exact Nat.le_refl _⟩, ⟨by repeat (first | (with_reducible first | exact HB.out | apply below_alloc | apply pw_below_drewN | apply below_drew1) | exact HB.out)⟩⟩
                                  · rw [if_neg c32] at H
                                    have c32b0 : (t191 == 0) = false := beq_eq_false_iff_ne.mpr c32
                                    have c32b1 : (t191 != 0) = true := bne_iff_ne.mpr c32
                                    have H' := Aside0.mk H
                                    clear H
                                    go_wp2
                                    go_meet
                                    case rel => exact ⟨_, (false), (by first | rfl | (simp; done) | (simp [*]; done)), H', ⟨by have := HJ3.out; have := HJ7.out; have := HJ10.out; have := HJ14.out; first | omega | exact Nat.le_refl _⟩, ⟨by repeat (first | (with_reducible first | exact HB.out | apply below_alloc | apply pw_below_drewN | apply below_drew1) | exact HB.out)⟩⟩
                                · rw [if_neg c31] at H
                                  have c31b0 : (t189 == 0) = false := beq_eq_false_iff_ne.mpr c31
                                  have c31b1 : (t189 != 0) = true := bne_iff_ne.mpr c31
                                  have H' := Aside0.mk H
                                  clear H
                                  go_wp2
                                  go_meet
                                  case rel => exact ⟨_, (false), (by first | rfl | (simp; done) | (simp [*]; done)), H', ⟨by have := HJ3.out; have := HJ7.out; have := HJ10.out; have := HJ14.out; first | omega | exact Nat.le_refl _⟩, ⟨by repeat (first | (with_reducible first | exact HB.out | apply below_alloc | apply pw_below_drewN | apply below_drew1) | exact HB.out)⟩⟩
                              · rw [if_neg c30] at H
                                have c30b0 : (t187 == 0) = false := beq_eq_false_iff_ne.mpr c30
                                have c30b1 : (t187 != 0) = true := bne_iff_ne.mpr c30
                                have H' := Aside0.mk H
                                clear H
                                go_wp2
                                go_meet
                                case rel => exact ⟨_, (false), (by first | rfl | (simp; done) | (simp [*]; done)), H', ⟨by have := HJ3.out; have := HJ7.out; have := HJ10.out; have := HJ14.out; first | omega | exact Nat.le_refl _⟩, ⟨by repeat (first | (with_reducible first | exact HB.out | apply below_alloc | apply pw_below_drewN | apply below_drew1) | exact HB.out)⟩⟩
                            · rw [if_neg c29] at H
                              have c29b0 : (x13_14 == 10) = false := beq_eq_false_iff_ne.mpr c29
                              have c29b1 : (x13_14 != 10) = true := bne_iff_ne.mpr c29
                              have H' := Aside0.mk H
                              clear H
                              go_wp2
                              go_meet
                              case rel => exact ⟨_, (false), (by first | rfl | (simp; done) | (simp [*]; done)), H', ⟨by have := HJ3.out; have := HJ7.out; have := HJ10.out; have := HJ14.out; first | omega | exact Nat.le_refl _⟩, ⟨by repeat (first | (with_reducible first | exact HB.out | apply below_alloc | apply pw_below_drewN | apply below_drew1) | exact HB.out)⟩⟩
                          · rw [if_neg c28] at H
                            have c28b0 : ((t180 ++ x10_10).toList == x0_3.toList) = false := beq_eq_false_iff_ne.mpr c28
                            have c28b1 : ((t180 ++ x10_10).toList != x0_3.toList) = true := bne_iff_ne.mpr c28
                            have H' := Aside0.mk H
                            clear H
                            go_wp2
                            go_meet
                            case rel => exact ⟨_, (false), (by first | rfl | (simp; done) | (simp [*]; done)), H', ⟨by have := HJ3.out; have := HJ7.out; have := HJ10.out; have := HJ14.out; first | omega | exact Nat.le_refl _⟩, ⟨by repeat (first | (with_reducible first | exact HB.out | apply below_alloc | apply pw_below_drewN | apply below_drew1) | exact HB.out)⟩⟩
                        · rw [if_neg c27] at H
                          exact absurd H (by simp)
                      · rw [if_neg c26] at H
                        have c26b0 : (x11_10 == 0) = false := beq_eq_false_iff_ne.mpr c26
                        have c26b1 : (x11_10 != 0) = true := bne_iff_ne.mpr c26
                        have H' := Aside0.mk H
                        clear H
                        go_wp2
                        go_meet
                        case rel => exact ⟨_, (false), (by first | rfl | (simp; done) | (simp [*]; done)), H', ⟨by have := HJ3.out; have := HJ7.out; have := HJ10.out; have := HJ14.out; first | omega | exact Nat.le_refl _⟩, ⟨by repeat (first | (with_reducible first | exact HB.out | apply below_alloc | apply pw_below_drewN | apply below_drew1) | exact HB.out)⟩⟩
                    · rw [if_neg c25] at H
                      have c25b0 : (t181 == 0) = false := beq_eq_false_iff_ne.mpr c25
                      have c25b1 : (t181 != 0) = true := bne_iff_ne.mpr c25
                      (first | rw [c25b0] | (simp only [i64_w, i32_w]; rw [c25b0]) | skip)
                      have H' := Aside0.mk H
                      clear H
                      go_wp2
                      go_meet
                      case rel => exact ⟨_, (false), (by first | rfl | (simp; done) | (simp [*]; done)), H', ⟨by have := HJ3.out; have := HJ7.out; have := HJ10.out; have := HJ14.out; first | omega | exact Nat.le_refl _⟩, ⟨by repeat (first | (with_reducible first | exact HB.out | apply below_alloc | apply pw_below_drewN | apply below_drew1) | exact HB.out)⟩⟩
                  case rest =>
                    clear HC21
                    try clear c1
                    try clear c2
                    try clear p2
                    try clear c3
                    try clear c6
                    try clear c6b0
                    try clear c6b1
                    try clear p6
                    try clear c7
                    try clear c7b0
                    try clear c7b1
                    try clear c9
                    try clear c9b0
                    try clear c9b1
                    try clear c16
                    try clear c17
                    try clear c25
                    try clear c25b0
                    try clear c25b1
                    try clear c26
                    try clear c26b0
                    try clear c26b1
                    try clear c27
                    try clear c27b0
                    try clear c27b1
                    try clear c27b2
                    try clear c28
                    try clear c28b0
                    try clear c28b1
                    try clear c29
                    try clear c29b0
                    try clear c29b1
                    try clear c30
                    try clear c30b0
                    try clear c30b1
                    try clear c31
                    try clear c31b0
                    try clear c31b1
                    try clear c32
                    try clear c32b0
                    try clear c32b1
                    try clear c33
                    try clear c33b0
                    try clear c33b1
                    try clear p2
                    try clear p6
                    obtain ⟨kq, x6_20, rfl, HA, HJ20, HB⟩ := hcut
                    cases kq with
                    | zero => exact absurd HA.out (by simp [gangwaylaw01_OctetsParts.j4])
                    | succ kj20 =>
                      have H := HA.out
                      clear HA
                      simp only [gangwaylaw01_OctetsParts.j4] at H
                      obtain rfl := Option.some.inj H
                      go_wp2
                      go_ret
                      exact ⟨by first | rfl | (simp [errW_none, errW_some] <;> rfl) | (simp [*, errW_none, errW_some] <;> rfl) | (simp [*, IntKind.wrap_u32]; done) | (simp_all [IntKind.wrap_u32]; done), by repeat (first | (with_reducible first | exact HB.out | apply below_alloc | apply pw_below_drewN | apply below_drew1) | exact HB.out)⟩


end Go.Proofs.YtclffgkefbdcpaaDoor.P
