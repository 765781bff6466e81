-- Written by wip/hprint.py (this session's program) through the kit's print program; hand contracts are marked 'by hand'.
import Derived.Test.YtclffgkefbdcpaaDoorPx0
import Derived.Test.YtclffgkefbdcpaaDoorPx1
import Derived.Test.YtclffgkefbdcpaaDoorPx4
import Derived.Test.YtclffgkefbdcpaaDoorPx5
import Derived.Test.YtclffgkefbdcpaaDoorPx7
import Derived.Test.YtclffgkefbdcpaaDoorPx8
namespace Go.Proofs.YtclffgkefbdcpaaDoor.P
open Go.RowKit Go.Proofs.YtclffgkefbdcpaaDoorW.PrintWords Go.Proofs.YtclffgkefbdcpaaDoorW.PrintLast Go.Proofs.YtclffgkefbdcpaaDoorW.PrintMore
attribute [local go_sem] max2_int min2_int max_two min_two max_three min_three max_four min_four   -- for this text's walks alone
set_option linter.unusedVariables false
set_option linter.unusedSimpArgs false

/-! ### gangwaylaw01_OctetsBack: function 5 -/
mutual
def gangwaylaw01_OctetsBack.j0 : Nat → Int → Int → ByteArray → Option (Bool)
  | 0, _, _, _ => none
  | k + 1, x0, x1, x2 => gangwaylaw01_OctetsBack.j1 k x0 x2 (wrap64 (1 + (Go.bits .and .i64 x1 7)))
def gangwaylaw01_OctetsBack.j1 : Nat → Int → ByteArray → Int → Option (Bool)
  | 0, _, _, _ => none
  | k + 1, x0, x2, x7 => if 0 ≤ (wrap64 (64 - (wrap64 (8 * x7)))) then ((octets_Put.f k (shr .u64 x0 (wrap64 (64 - (wrap64 (8 * x7))))) x7).bind fun bt164 => (gangwaylaw01_OctetsBack.j2 k x0 x2 x7 bt164.1 bt164.2)) else (none)
def gangwaylaw01_OctetsBack.j2 : Nat → Int → ByteArray → Int → ByteArray → Int → Option (Bool)
  | 0, _, _, _, _, _ => none
  | k + 1, x0, x2, x7, x8, x9 => if x2.size + x8.size ≤ 9223372036854775807 then (if (x2 ++ x8).size + x2.size ≤ 9223372036854775807 then ((octets_Get.f k ((x2 ++ x8) ++ x2) (x2.size : Int) x7).bind fun bt166 => (if x9 = 0 then (if bt166.2 = 0 then (if 0 ≤ (wrap64 (64 - (wrap64 (8 * x7)))) then (if bt166.1 = (shr .u64 x0 (wrap64 (64 - (wrap64 (8 * x7))))) then (gangwaylaw01_OctetsBack.j3 k x2 x7 ((x8.size : Int) != x7)) else (gangwaylaw01_OctetsBack.j3 k x2 x7 true)) else (none)) else (gangwaylaw01_OctetsBack.j3 k x2 x7 true)) else (gangwaylaw01_OctetsBack.j3 k x2 x7 true))) else (none)) else (none)
def gangwaylaw01_OctetsBack.j3 : Nat → ByteArray → Int → Bool → Option (Bool)
  | 0, _, _, _ => none
  | k + 1, x2, x7, x69 => if x69 = true then (none) else ((octets_Get.f k x2 0 x7).bind fun bt168 => (if bt168.2 = 0 then ((octets_Put.f k bt168.1 x7).bind fun bt170 => (if bt170.2 = 0 then (if (x2.size : Int) < x7 then (gangwaylaw01_OctetsBack.j4 k x2 true) else (if 0 ≤ x7 then (if x7 ≤ (x2.size : Int) then (gangwaylaw01_OctetsBack.j4 k x2 (bt170.1.toList != (x2.extract 0 (x7 : Int).toNat).toList)) else (none)) else (none))) else (gangwaylaw01_OctetsBack.j4 k x2 true))) else ((octets_Hex.f x2).bind fun t176 => ((octets_Unhex.f t176).bind fun bt177 => (if bt177.2 = 0 then (if bt177.1.toList = x2.toList then (if (t176.size : Int) = (wrap64 (2 * (x2.size : Int))) then ((gangwaylaw01_fixed.f k).bind fun t179 => (some t179)) else (none)) else (none)) else (none))))))
def gangwaylaw01_OctetsBack.j4 : Nat → ByteArray → Bool → Option (Bool)
  | 0, _, _ => none
  | k + 1, x2, x98 => if x98 = true then (none) else ((octets_Hex.f x2).bind fun t172 => ((octets_Unhex.f t172).bind fun bt173 => (if bt173.2 = 0 then (if bt173.1.toList = x2.toList then (if (t172.size : Int) = (wrap64 (2 * (x2.size : Int))) then ((gangwaylaw01_fixed.f k).bind fun t175 => (some t175)) else (none)) else (none)) else (none))))
end
def gangwaylaw01_OctetsBack.f (k : Nat) (a0 : Int) (a1 : Int) (a2 : ByteArray) : Option (Bool) := if 0 ≤ (mn (a2.size : Int) 1000) then (if (mn (a2.size : Int) 1000) ≤ (a2.size : Int) then (gangwaylaw01_OctetsBack.j0 k a0 a1 (a2.extract 0 ((mn (a2.size : Int) 1000) : Int).toNat)) else (none)) else (none)
theorem gangwaylaw01_OctetsBack.mono_l : ∀ k, (∀ y0 y1 y2, LeO (gangwaylaw01_OctetsBack.j0 k y0 y1 y2) (gangwaylaw01_OctetsBack.j0 (k + 1) y0 y1 y2)) ∧ (∀ y0 y1 y2, LeO (gangwaylaw01_OctetsBack.j1 k y0 y1 y2) (gangwaylaw01_OctetsBack.j1 (k + 1) y0 y1 y2)) ∧ (∀ y0 y1 y2 y3 y4, LeO (gangwaylaw01_OctetsBack.j2 k y0 y1 y2 y3 y4) (gangwaylaw01_OctetsBack.j2 (k + 1) y0 y1 y2 y3 y4)) ∧ (∀ y0 y1 y2, LeO (gangwaylaw01_OctetsBack.j3 k y0 y1 y2) (gangwaylaw01_OctetsBack.j3 (k + 1) y0 y1 y2)) ∧ (∀ y0 y1, LeO (gangwaylaw01_OctetsBack.j4 k y0 y1) (gangwaylaw01_OctetsBack.j4 (k + 1) y0 y1))
  | 0 => ⟨fun _ _ _ r h => by simp [gangwaylaw01_OctetsBack.j0] at h, fun _ _ _ r h => by simp [gangwaylaw01_OctetsBack.j1] at h, fun _ _ _ _ _ r h => by simp [gangwaylaw01_OctetsBack.j2] at h, fun _ _ _ r h => by simp [gangwaylaw01_OctetsBack.j3] at h, fun _ _ r h => by simp [gangwaylaw01_OctetsBack.j4] at h⟩
  | k + 1 => by
    obtain ⟨ih0, ih1, ih2, ih3, ih4⟩ := gangwaylaw01_OctetsBack.mono_l k
    refine ⟨?_, ?_, ?_, ?_, ?_⟩
    · intro y0 y1 y2
      unfold gangwaylaw01_OctetsBack.j0
      repeat' first
      | (with_reducible exact ih0 _ _ _)
      | (with_reducible exact ih1 _ _ _)
      | (with_reducible exact ih2 _ _ _ _ _)
      | (with_reducible exact ih3 _ _ _)
      | (with_reducible exact ih4 _ _)
      | (with_reducible exact gangwaylaw01_fixed.mono _)
      | (with_reducible exact octets_Get.mono _ _ _ _)
      | (with_reducible exact octets_Put.mono _ _ _)
      | (with_reducible exact LeO.refl _)
      | (with_reducible exact LeO.none _)
      | (with_reducible refine LeO.ite ?_ ?_)
      | (with_reducible refine LeO.bind ?_ (fun _ => ?_))
      | exact ih0 _ _ _
      | exact ih1 _ _ _
      | exact ih2 _ _ _ _ _
      | exact ih3 _ _ _
      | exact ih4 _ _
      | exact gangwaylaw01_fixed.mono _
      | exact octets_Get.mono _ _ _ _
      | exact octets_Put.mono _ _ _
      | exact LeO.none _
      | refine LeO.ite ?_ ?_
      | refine LeO.bind ?_ (fun _ => ?_)
    · intro y0 y1 y2
      unfold gangwaylaw01_OctetsBack.j1
      repeat' first
      | (with_reducible exact ih0 _ _ _)
      | (with_reducible exact ih1 _ _ _)
      | (with_reducible exact ih2 _ _ _ _ _)
      | (with_reducible exact ih3 _ _ _)
      | (with_reducible exact ih4 _ _)
      | (with_reducible exact gangwaylaw01_fixed.mono _)
      | (with_reducible exact octets_Get.mono _ _ _ _)
      | (with_reducible exact octets_Put.mono _ _ _)
      | (with_reducible exact LeO.refl _)
      | (with_reducible exact LeO.none _)
      | (with_reducible refine LeO.ite ?_ ?_)
      | (with_reducible refine LeO.bind ?_ (fun _ => ?_))
      | exact ih0 _ _ _
      | exact ih1 _ _ _
      | exact ih2 _ _ _ _ _
      | exact ih3 _ _ _
      | exact ih4 _ _
      | exact gangwaylaw01_fixed.mono _
      | exact octets_Get.mono _ _ _ _
      | exact octets_Put.mono _ _ _
      | exact LeO.none _
      | refine LeO.ite ?_ ?_
      | refine LeO.bind ?_ (fun _ => ?_)
    · intro y0 y1 y2 y3 y4
      unfold gangwaylaw01_OctetsBack.j2
      repeat' first
      | (with_reducible exact ih0 _ _ _)
      | (with_reducible exact ih1 _ _ _)
      | (with_reducible exact ih2 _ _ _ _ _)
      | (with_reducible exact ih3 _ _ _)
      | (with_reducible exact ih4 _ _)
      | (with_reducible exact gangwaylaw01_fixed.mono _)
      | (with_reducible exact octets_Get.mono _ _ _ _)
      | (with_reducible exact octets_Put.mono _ _ _)
      | (with_reducible exact LeO.refl _)
      | (with_reducible exact LeO.none _)
      | (with_reducible refine LeO.ite ?_ ?_)
      | (with_reducible refine LeO.bind ?_ (fun _ => ?_))
      | exact ih0 _ _ _
      | exact ih1 _ _ _
      | exact ih2 _ _ _ _ _
      | exact ih3 _ _ _
      | exact ih4 _ _
      | exact gangwaylaw01_fixed.mono _
      | exact octets_Get.mono _ _ _ _
      | exact octets_Put.mono _ _ _
      | exact LeO.none _
      | refine LeO.ite ?_ ?_
      | refine LeO.bind ?_ (fun _ => ?_)
    · intro y0 y1 y2
      unfold gangwaylaw01_OctetsBack.j3
      repeat' first
      | (with_reducible exact ih0 _ _ _)
      | (with_reducible exact ih1 _ _ _)
      | (with_reducible exact ih2 _ _ _ _ _)
      | (with_reducible exact ih3 _ _ _)
      | (with_reducible exact ih4 _ _)
      | (with_reducible exact gangwaylaw01_fixed.mono _)
      | (with_reducible exact octets_Get.mono _ _ _ _)
      | (with_reducible exact octets_Put.mono _ _ _)
      | (with_reducible exact LeO.refl _)
      | (with_reducible exact LeO.none _)
      | (with_reducible refine LeO.ite ?_ ?_)
      | (with_reducible refine LeO.bind ?_ (fun _ => ?_))
      | exact ih0 _ _ _
      | exact ih1 _ _ _
      | exact ih2 _ _ _ _ _
      | exact ih3 _ _ _
      | exact ih4 _ _
      | exact gangwaylaw01_fixed.mono _
      | exact octets_Get.mono _ _ _ _
      | exact octets_Put.mono _ _ _
      | exact LeO.none _
      | refine LeO.ite ?_ ?_
      | refine LeO.bind ?_ (fun _ => ?_)
    · intro y0 y1
      unfold gangwaylaw01_OctetsBack.j4
      repeat' first
      | (with_reducible exact ih0 _ _ _)
      | (with_reducible exact ih1 _ _ _)
      | (with_reducible exact ih2 _ _ _ _ _)
      | (with_reducible exact ih3 _ _ _)
      | (with_reducible exact ih4 _ _)
      | (with_reducible exact gangwaylaw01_fixed.mono _)
      | (with_reducible exact octets_Get.mono _ _ _ _)
      | (with_reducible exact octets_Put.mono _ _ _)
      | (with_reducible exact LeO.refl _)
      | (with_reducible exact LeO.none _)
      | (with_reducible refine LeO.ite ?_ ?_)
      | (with_reducible refine LeO.bind ?_ (fun _ => ?_))
      | exact ih0 _ _ _
      | exact ih1 _ _ _
      | exact ih2 _ _ _ _ _
      | exact ih3 _ _ _
      | exact ih4 _ _
      | exact gangwaylaw01_fixed.mono _
      | exact octets_Get.mono _ _ _ _
      | exact octets_Put.mono _ _ _
      | exact LeO.none _
      | refine LeO.ite ?_ ?_
      | refine LeO.bind ?_ (fun _ => ?_)
theorem gangwaylaw01_OctetsBack.mono : ∀ a0 a1 a2 k, LeO (gangwaylaw01_OctetsBack.f k a0 a1 a2) (gangwaylaw01_OctetsBack.f (k + 1) a0 a1 a2) := by
  intro a0 a1 a2 k
  obtain ⟨ih0, ih1, ih2, ih3, ih4⟩ := gangwaylaw01_OctetsBack.mono_l k
  unfold gangwaylaw01_OctetsBack.f
  repeat' first
      | (with_reducible exact ih0 _ _ _)
      | (with_reducible exact ih1 _ _ _)
      | (with_reducible exact ih2 _ _ _ _ _)
      | (with_reducible exact ih3 _ _ _)
      | (with_reducible exact ih4 _ _)
      | (with_reducible exact gangwaylaw01_fixed.mono _)
      | (with_reducible exact octets_Get.mono _ _ _ _)
      | (with_reducible exact octets_Put.mono _ _ _)
      | (with_reducible exact LeO.refl _)
      | (with_reducible exact LeO.none _)
      | (with_reducible refine LeO.ite ?_ ?_)
      | (with_reducible refine LeO.bind ?_ (fun _ => ?_))
      | exact ih0 _ _ _
      | exact ih1 _ _ _
      | exact ih2 _ _ _ _ _
      | exact ih3 _ _ _
      | exact ih4 _ _
      | exact gangwaylaw01_fixed.mono _
      | exact octets_Get.mono _ _ _ _
      | exact octets_Put.mono _ _ _
      | exact LeO.none _
      | refine LeO.ite ?_ ?_
      | refine LeO.bind ?_ (fun _ => ?_)
set_option maxHeartbeats 8000000 in
set_option maxRecDepth 100000 in
theorem gangwaylaw01_OctetsBack.calls (k : Nat) (a0 : Int) (a1 : Int) (a2 : ByteArray) (r : Bool) (w : World) (hL : Laid w) (h : gangwaylaw01_OctetsBack.f k a0 a1 a2 = some r) :
    Calls Tryd.prog 5 #[.int .u64 a0, .int .i64 a1, .string a2] w fun e w' => e = .returned (.bool r) ∧ Below w.heap.size w w' := by
  have HLD := Aside0.mk hL
  clear hL
  have HB := Aside0.mk (Below.refl w.heap.size w)
  have H : (if 0 ≤ (mn (a2.size : Int) 1000) then (if (mn (a2.size : Int) 1000) ≤ (a2.size : Int) then (gangwaylaw01_OctetsBack.j0 k a0 a1 (a2.extract 0 ((mn (a2.size : Int) 1000) : Int).toNat)) else (none)) else (none)) = some r := h
  clear h
  have HC4 := Aside0.mk H
  clear H
  go_enter Tryd.func5, Tryd.ntmps5
  go_upto_region 1 with (fail)
  go_cut [2] (fun v2 wc => ∃ (kq : Nat) (x2_3 : ByteArray), v2 = .string x2_3 ∧ Aside0 (gangwaylaw01_OctetsBack.j0 kq a0 a1 x2_3 = some r) ∧ Aside0 (kq ≤ k) ∧ Aside0 (Below w.heap.size w wc))
  case first =>
    have H := HC4.out
    clear HC4
    obtain ⟨ji5, hji5⟩ : ∃ j_ : Int, (mn (a2.size : Int) 1000) = j_ := ⟨_, rfl⟩
    replace H : (if 0 ≤ (ji5) then (if (ji5) ≤ (a2.size : Int) then (gangwaylaw01_OctetsBack.j0 k a0 a1 (a2.extract 0 ((ji5) : Int).toNat)) else (none)) else (none)) = some r := by first | (rw [hji5] at H; exact H) | (simp only [hji5] at H ⊢; exact H)
    (try (have hji5h : ji5 ≤ 1000 := by (rw [← hji5]; unfold mn; (repeat' split) <;> omega)))
    (try (have hji5g : ji5 ≤ 64 := by omega))
    (try (have hji5l : 0 ≤ ji5 := by (rw [← hji5]; unfold mn; (repeat' split) <;> omega)))
    (try (have hji5m : 0 ≤ ji5 := by omega))
    have hji5_ : (if 1000 < (a2.size : Int) then 1000 else (a2.size : Int)) = ji5 := hji5
    by_cases c6 : 0 ≤ (ji5)
    · rw [if_pos c6] at H
      have c6b0 := eq_true c6
      have c6b1 : decide (0 ≤ (ji5)) = true := decide_eq_true c6
      clear c6
      by_cases c7 : (ji5) ≤ (a2.size : Int)
      · rw [if_pos c7] at H
        have c7b0 := eq_true c7
        have c7b1 : decide ((ji5) ≤ (a2.size : Int)) = true := decide_eq_true c7
        clear c7
        have H' := Aside0.mk H
        clear H
        go_wp2
        go_meet
        case rel => exact ⟨_, (a2.extract 0 ((ji5) : Int).toNat), (by first | rfl | (simp; done) | (simp only [← hji5] <;> (first | rfl | simp)) | (simp [*]; done)), H', ⟨by first | omega | exact Nat.le_refl _⟩, ⟨by repeat (first | (with_reducible first | exact HB.out | apply below_alloc | apply pw_below_drewN | apply below_drew1) | exact HB.out)⟩⟩
      · rw [if_neg c7] at H
        exact absurd H (by simp)
    · rw [if_neg c6] at H
      exact absurd H (by simp)
  case rest =>
    clear HC4
    try clear p2
    try clear c5
    try clear c6
    try clear c6b0
    try clear c6b1
    try clear c7
    try clear c7b0
    try clear c7b1
    obtain ⟨kq, x2_3, rfl, HA, HJ3, HB⟩ := hcut
    cases kq with
    | zero => exact absurd HA.out (by simp [gangwaylaw01_OctetsBack.j0])
    | succ kj3 =>
      have H := HA.out
      clear HA
      simp only [gangwaylaw01_OctetsBack.j0] at H
      have HC8 := Aside0.mk H
      clear H
      go_upto_region 2 with (fail)
      go_cut [7] (fun v7 wc => ∃ (kq : Nat) (x7_7 : Int), v7 = .int .i64 x7_7 ∧ Aside0 (gangwaylaw01_OctetsBack.j1 kq a0 x2_3 x7_7 = some r) ∧ Aside0 (kq ≤ kj3) ∧ Aside0 (Below w.heap.size w wc))
      case first =>
        have H := HC8.out
        clear HC8
        have H' := Aside0.mk H
        clear H
        go_wp2
        go_meet
        case rel => exact ⟨_, (wrap64 (1 + (Go.bits .and .i64 a1 7))), (by first | rfl | (simp; done) | (simp [*]; done)), H', ⟨by have := HJ3.out; first | omega | exact Nat.le_refl _⟩, ⟨by repeat (first | (with_reducible first | exact HB.out | apply below_alloc | apply pw_below_drewN | apply below_drew1) | exact HB.out)⟩⟩
      case rest =>
        clear HC8
        try clear p2
        try clear c5
        try clear c6
        try clear c6b0
        try clear c6b1
        try clear p6
        try clear c7
        try clear c7b0
        try clear c7b1
        try clear p2
        obtain ⟨kq, x7_7, rfl, HA, HJ7, HB⟩ := hcut
        cases kq with
        | zero => exact absurd HA.out (by simp [gangwaylaw01_OctetsBack.j1])
        | succ kj7 =>
          have H := HA.out
          clear HA
          simp only [gangwaylaw01_OctetsBack.j1] at H
          have HC9 := Aside0.mk H
          clear H
          go_upto_region 3 with (fail)
          go_cut [8, 9] (fun v8 v9 wc => ∃ (kq : Nat) (x8_8 : ByteArray) (x9_8 : Int), v8 = .string x8_8 ∧ v9 = .int .i64 x9_8 ∧ Aside0 (gangwaylaw01_OctetsBack.j2 kq a0 x2_3 x7_7 x8_8 x9_8 = some r) ∧ Aside0 (kq ≤ kj7) ∧ Aside0 (Below w.heap.size w wc))
          case first =>
            have H := HC9.out
            clear HC9
            obtain ⟨ji10, hji10⟩ : ∃ j_ : Int, (wrap64 (64 - (wrap64 (8 * x7_7)))) = j_ := ⟨_, rfl⟩
            replace H : (if 0 ≤ (ji10) then ((octets_Put.f kj7 (shr .u64 a0 (ji10)) x7_7).bind fun bt164 => (gangwaylaw01_OctetsBack.j2 kj7 a0 x2_3 x7_7 bt164.1 bt164.2)) else (none)) = some r := by first | (rw [hji10] at H; exact H) | (simp only [hji10] at H ⊢; exact H)
            have hji10w : (IntKind.i64.wrap (64 - (wrap64 (8 * x7_7)))) = ji10 := (i64_w _).trans hji10
            by_cases c11 : 0 ≤ (ji10)
            · rw [if_pos c11] at H
              have c11b0 := eq_true c11
              have c11b1 : decide (0 ≤ (ji10)) = true := decide_eq_true c11
              clear c11
              obtain ⟨ji12, hji12⟩ : ∃ j_ : Int, (shr .u64 a0 (ji10)) = j_ := ⟨_, rfl⟩
              replace H : ((octets_Put.f kj7 (ji12) x7_7).bind fun bt164 => (gangwaylaw01_OctetsBack.j2 kj7 a0 x2_3 x7_7 bt164.1 bt164.2)) = some r := by first | (rw [hji12] at H; exact H) | (simp only [hji12] at H ⊢; exact H)
              have hji12_ : (a0 / 2 ^ min (ji10).toNat 64) = ji12 := hji12
              have hji12z : (ji10) ≤ 64 → (a0 / 2 ^ (ji10).toNat) = ji12 := shr_small hji12
              replace H := Option.bind_eq_some_iff.mp H
              obtain ⟨⟨t164, t165⟩, A130, H⟩ := H
              replace H : (gangwaylaw01_OctetsBack.j2 kj7 a0 x2_3 x7_7 t164 t165) = some r := H
              have A13 := Aside0.mk A130
              clear A130
              have H' := Aside0.mk H
              clear H
              go_wp2_with (first | ((with_reducible refine gate_callee (f := 9) rfl ?_); refine goesL_ (some 34) rfl rfl Tryd.func9 (by kernel_rfl) rfl #[.int .u64 ji12, .int .i64 x7_7] rfl (by (try simp only [List.map_toArray, List.map_cons, List.map_nil]); first | done | (simp only [hji12]; rfl) | rfl | (simp only [List.length_drop, List.length_take]; rfl)) ?_; (with_reducible refine (octets_Put.calls kj7 ji12 x7_7 t164 t165 _ A13.out).mono ?_); rintro e w14 ⟨rfl, hb⟩; refine ⟨_, rfl, ?_⟩; have n0_ := Aside0.mk (below_step (by repeat (first | (with_reducible first | exact HB.out | apply below_alloc | apply pw_below_drewN | apply below_drew1) | exact HB.out)) hb); clear HB; have HB := n0_; clear n0_; (try clear hb); (try clear hb2); (try clear hk); (try clear hi)))
              go_meet
              case rel => exact ⟨_, (t164), (t165), (by first | rfl | (simp; done) | (simp [*]; done)), (by first | rfl | (simp; done) | (simp [*]; done)), H', ⟨by have := HJ3.out; have := HJ7.out; first | omega | exact Nat.le_refl _⟩, ⟨by repeat (first | (with_reducible first | exact HB.out | apply below_alloc | apply pw_below_drewN | apply below_drew1) | exact HB.out)⟩⟩
            · rw [if_neg c11] at H
              exact absurd H (by simp)
          case rest =>
            clear HC9
            try clear c1
            try clear p2
            try clear c5
            try clear c6
            try clear c6b0
            try clear c6b1
            try clear p6
            try clear c7
            try clear c7b0
            try clear c7b1
            try clear c9
            try clear c11
            try clear c11b0
            try clear c11b1
            try clear p2
            try clear p6
            obtain ⟨kq, x8_8, x9_8, rfl, rfl, HA, HJ8, HB⟩ := hcut
            cases kq with
            | zero => exact absurd HA.out (by simp [gangwaylaw01_OctetsBack.j2])
            | succ kj8 =>
              have H := HA.out
              clear HA
              simp only [gangwaylaw01_OctetsBack.j2] at H
              by_cases c15 : x2_3.size + x8_8.size ≤ 9223372036854775807
              · rw [if_pos c15] at H
                have c15b0 := eq_true c15
                have c15b1 : decide (x2_3.size + x8_8.size ≤ 9223372036854775807) = true := decide_eq_true c15
                try have c15b2 : (9223372036854775807 < x2_3.size + x8_8.size) = False := eq_false (Nat.not_lt.2 c15)
                by_cases c16 : (x2_3 ++ x8_8).size + x2_3.size ≤ 9223372036854775807
                · rw [if_pos c16] at H
                  have c16b0 := eq_true c16
                  have c16b1 : decide ((x2_3 ++ x8_8).size + x2_3.size ≤ 9223372036854775807) = true := decide_eq_true c16
                  have c16z := c16
                  simp only [ByteArray.size_append] at c16z
                  have c16z1 := eq_true c16z
                  have c16z2 := eq_false (Nat.not_lt.2 c16z)
                  try have c16b2 : (9223372036854775807 < (x2_3 ++ x8_8).size + x2_3.size) = False := eq_false (Nat.not_lt.2 c16)
                  replace H := Option.bind_eq_some_iff.mp H
                  obtain ⟨⟨t166, t167⟩, A170, H⟩ := H
                  replace H : (if x9_8 = 0 then (if t167 = 0 then (if 0 ≤ (wrap64 (64 - (wrap64 (8 * x7_7)))) then (if t166 = (shr .u64 a0 (wrap64 (64 - (wrap64 (8 * x7_7))))) then (gangwaylaw01_OctetsBack.j3 kj8 x2_3 x7_7 ((x8_8.size : Int) != x7_7)) else (gangwaylaw01_OctetsBack.j3 kj8 x2_3 x7_7 true)) else (none)) else (gangwaylaw01_OctetsBack.j3 kj8 x2_3 x7_7 true)) else (gangwaylaw01_OctetsBack.j3 kj8 x2_3 x7_7 true)) = some r := H
                  have A17 := Aside0.mk A170
                  clear A170
                  have HC18 := Aside0.mk H
                  clear H
                  go_upto_region 5 with (first | ((with_reducible refine gate_callee (f := 16) rfl ?_); refine goesL_ (some 46) rfl rfl Tryd.func16 (by kernel_rfl) rfl #[.string ((x2_3 ++ x8_8) ++ x2_3), .int .i64 (x2_3.size : Int), .int .i64 x7_7] rfl (by (try simp only [List.map_toArray, List.map_cons, List.map_nil]); first | done | rfl | (simp only [List.length_drop, List.length_take]; rfl)) ?_; (with_reducible refine (octets_Get.calls kj8 ((x2_3 ++ x8_8) ++ x2_3) (x2_3.size : Int) x7_7 t166 t167 _ ?sideL A17.out).mono ?_); (case sideL => exact laid_below HLD.out (by repeat (first | (with_reducible first | exact HB.out | apply below_alloc | apply pw_below_drewN | apply below_drew1) | exact HB.out))); rintro e w19 ⟨rfl, hb⟩; refine ⟨_, rfl, ?_⟩; have n0_ := Aside0.mk (below_step (by repeat (first | (with_reducible first | exact HB.out | apply below_alloc | apply pw_below_drewN | apply below_drew1) | exact HB.out)) hb); clear HB; have HB := n0_; clear n0_; (try clear hb); (try clear hb2); (try clear hk); (try clear hi)))
                  (try simp only [Act.put, List.setIfInBounds_toArray, List.set_cons_zero, List.set_cons_succ])
                  go_cut [69] (fun v69 wc => ∃ (kq : Nat) (x69_17 : Bool), v69 = .bool x69_17 ∧ Aside0 (gangwaylaw01_OctetsBack.j3 kq x2_3 x7_7 x69_17 = some r) ∧ Aside0 (kq ≤ kj8) ∧ Aside0 (Below w.heap.size w wc))
                  case first =>
                    have H := HC18.out
                    clear HC18
                    by_cases c20 : x9_8 = 0
                    · rw [if_pos c20] at H
                      have c20b0 : (x9_8 == 0) = true := beq_iff_eq.mpr c20
                      have c20b1 : (x9_8 != 0) = false := bne_eq_false_iff_eq.mpr c20
                      clear c20
                      (first | rw [c20b0] | (simp only [i64_w, i32_w]; rw [c20b0]) | skip)
                      by_cases c21 : t167 = 0
                      · rw [if_pos c21] at H
                        have c21b0 : (t167 == 0) = true := beq_iff_eq.mpr c21
                        have c21b1 : (t167 != 0) = false := bne_eq_false_iff_eq.mpr c21
                        clear c21
                        obtain ⟨ji22, hji22⟩ : ∃ j_ : Int, (wrap64 (64 - (wrap64 (8 * x7_7)))) = j_ := ⟨_, rfl⟩
                        replace H : (if 0 ≤ (ji22) then (if t166 = (shr .u64 a0 (ji22)) then (gangwaylaw01_OctetsBack.j3 kj8 x2_3 x7_7 ((x8_8.size : Int) != x7_7)) else (gangwaylaw01_OctetsBack.j3 kj8 x2_3 x7_7 true)) else (none)) = some r := by first | (rw [hji22] at H; exact H) | (simp only [hji22] at H ⊢; exact H)
                        have hji22w : (IntKind.i64.wrap (64 - (wrap64 (8 * x7_7)))) = ji22 := (i64_w _).trans hji22
                        by_cases c23 : 0 ≤ (ji22)
                        · rw [if_pos c23] at H
                          have c23b0 := eq_true c23
                          have c23b1 : decide (0 ≤ (ji22)) = true := decide_eq_true c23
                          clear c23
                          obtain ⟨ji24, hji24⟩ : ∃ j_ : Int, (shr .u64 a0 (ji22)) = j_ := ⟨_, rfl⟩
                          replace H : (if t166 = (ji24) then (gangwaylaw01_OctetsBack.j3 kj8 x2_3 x7_7 ((x8_8.size : Int) != x7_7)) else (gangwaylaw01_OctetsBack.j3 kj8 x2_3 x7_7 true)) = some r := by first | (rw [hji24] at H; exact H) | (simp only [hji24] at H ⊢; exact H)
                          have hji24_ : (a0 / 2 ^ min (ji22).toNat 64) = ji24 := hji24
                          have hji24z : (ji22) ≤ 64 → (a0 / 2 ^ (ji22).toNat) = ji24 := shr_small hji24
                          by_cases c25 : t166 = (ji24)
                          · rw [if_pos c25] at H
                            have c25b0 : (t166 == (ji24)) = true := beq_iff_eq.mpr c25
                            have c25b1 : (t166 != (ji24)) = false := bne_eq_false_iff_eq.mpr c25
                            clear c25
                            have H' := Aside0.mk H
                            clear H
                            go_wp2
                            go_meet
                            case rel => exact ⟨_, (((x8_8.size : Int) != x7_7)), (by first | rfl | (simp; done) | (simp [*]; done)), H', ⟨by have := HJ3.out; have := HJ7.out; have := HJ8.out; first | omega | exact Nat.le_refl _⟩, ⟨by repeat (first | (with_reducible first | exact HB.out | apply below_alloc | apply pw_below_drewN | apply below_drew1) | exact HB.out)⟩⟩
                          · rw [if_neg c25] at H
                            have c25b0 : (t166 == (ji24)) = false := beq_eq_false_iff_ne.mpr c25
                            have c25b1 : (t166 != (ji24)) = true := bne_iff_ne.mpr c25
                            have H' := Aside0.mk H
                            clear H
                            go_wp2
                            go_meet
                            case rel => exact ⟨_, (true), (by first | rfl | (simp; done) | (simp [*]; done)), H', ⟨by have := HJ3.out; have := HJ7.out; have := HJ8.out; first | omega | exact Nat.le_refl _⟩, ⟨by repeat (first | (with_reducible first | exact HB.out | apply below_alloc | apply pw_below_drewN | apply below_drew1) | exact HB.out)⟩⟩
                        · rw [if_neg c23] at H
                          exact absurd H (by simp)
                      · rw [if_neg c21] at H
                        have c21b0 : (t167 == 0) = false := beq_eq_false_iff_ne.mpr c21
                        have c21b1 : (t167 != 0) = true := bne_iff_ne.mpr c21
                        have H' := Aside0.mk H
                        clear H
                        go_wp2
                        go_meet
                        case rel => exact ⟨_, (true), (by first | rfl | (simp; done) | (simp [*]; done)), H', ⟨by have := HJ3.out; have := HJ7.out; have := HJ8.out; first | omega | exact Nat.le_refl _⟩, ⟨by repeat (first | (with_reducible first | exact HB.out | apply below_alloc | apply pw_below_drewN | apply below_drew1) | exact HB.out)⟩⟩
                    · rw [if_neg c20] at H
                      have c20b0 : (x9_8 == 0) = false := beq_eq_false_iff_ne.mpr c20
                      have c20b1 : (x9_8 != 0) = true := bne_iff_ne.mpr c20
                      (first | rw [c20b0] | (simp only [i64_w, i32_w]; rw [c20b0]) | skip)
                      have H' := Aside0.mk H
                      clear H
                      go_wp2
                      go_meet
                      case rel => exact ⟨_, (true), (by first | rfl | (simp; done) | (simp [*]; done)), H', ⟨by have := HJ3.out; have := HJ7.out; have := HJ8.out; first | omega | exact Nat.le_refl _⟩, ⟨by repeat (first | (with_reducible first | exact HB.out | apply below_alloc | apply pw_below_drewN | apply below_drew1) | exact HB.out)⟩⟩
                  case rest =>
                    clear HC18
                    try clear c1
                    try clear c2
                    try clear p2
                    try clear c5
                    try clear c6
                    try clear c6b0
                    try clear c6b1
                    try clear p6
                    try clear c7
                    try clear c7b0
                    try clear c7b1
                    try clear c9
                    try clear c11
                    try clear c11b0
                    try clear c11b1
                    try clear c15
                    try clear c15b0
                    try clear c15b1
                    try clear c15b2
                    try clear c16
                    try clear c16b0
                    try clear c16b1
                    try clear c16b2
                    try clear c20
                    try clear c20b0
                    try clear c20b1
                    try clear c21
                    try clear c21b0
                    try clear c21b1
                    try clear c23
                    try clear c23b0
                    try clear c23b1
                    try clear c25
                    try clear c25b0
                    try clear c25b1
                    try clear p2
                    try clear p6
                    obtain ⟨kq, x69_17, rfl, HA, HJ17, HB⟩ := hcut
                    cases kq with
                    | zero => exact absurd HA.out (by simp [gangwaylaw01_OctetsBack.j3])
                    | succ kj17 =>
                      have H := HA.out
                      clear HA
                      simp only [gangwaylaw01_OctetsBack.j3] at H
                      by_cases c26 : x69_17 = true
                      · subst c26
                        have H1 : (none) = some r := by rw [if_pos rfl] at H; exact H
                        clear H
                        have H := H1
                        clear H1
                        exact absurd H (by simp)
                      · replace c26 := Bool.eq_false_iff.mpr c26
                        subst c26
                        have H1 : ((octets_Get.f kj17 x2_3 0 x7_7).bind fun bt168 => (if bt168.2 = 0 then ((octets_Put.f kj17 bt168.1 x7_7).bind fun bt170 => (if bt170.2 = 0 then (if (x2_3.size : Int) < x7_7 then (gangwaylaw01_OctetsBack.j4 kj17 x2_3 true) else (if 0 ≤ x7_7 then (if x7_7 ≤ (x2_3.size : Int) then (gangwaylaw01_OctetsBack.j4 kj17 x2_3 (bt170.1.toList != (x2_3.extract 0 (x7_7 : Int).toNat).toList)) else (none)) else (none))) else (gangwaylaw01_OctetsBack.j4 kj17 x2_3 true))) else ((octets_Hex.f x2_3).bind fun t176 => ((octets_Unhex.f t176).bind fun bt177 => (if bt177.2 = 0 then (if bt177.1.toList = x2_3.toList then (if (t176.size : Int) = (wrap64 (2 * (x2_3.size : Int))) then ((gangwaylaw01_fixed.f kj17).bind fun t179 => (some t179)) else (none)) else (none)) else (none)))))) = some r := by rw [if_neg (show ¬ (false = true) by decide)] at H; exact H
                        clear H
                        have H := H1
                        clear H1
                        replace H := Option.bind_eq_some_iff.mp H
                        obtain ⟨⟨t168, t169⟩, A270, H⟩ := H
                        replace H : (if t169 = 0 then ((octets_Put.f kj17 t168 x7_7).bind fun bt170 => (if bt170.2 = 0 then (if (x2_3.size : Int) < x7_7 then (gangwaylaw01_OctetsBack.j4 kj17 x2_3 true) else (if 0 ≤ x7_7 then (if x7_7 ≤ (x2_3.size : Int) then (gangwaylaw01_OctetsBack.j4 kj17 x2_3 (bt170.1.toList != (x2_3.extract 0 (x7_7 : Int).toNat).toList)) else (none)) else (none))) else (gangwaylaw01_OctetsBack.j4 kj17 x2_3 true))) else ((octets_Hex.f x2_3).bind fun t176 => ((octets_Unhex.f t176).bind fun bt177 => (if bt177.2 = 0 then (if bt177.1.toList = x2_3.toList then (if (t176.size : Int) = (wrap64 (2 * (x2_3.size : Int))) then ((gangwaylaw01_fixed.f kj17).bind fun t179 => (some t179)) else (none)) else (none)) else (none))))) = some r := H
                        have A27 := Aside0.mk A270
                        clear A270
                        by_cases c28 : t169 = 0
                        · rw [if_pos c28] at H
                          have c28b0 : (t169 == 0) = true := beq_iff_eq.mpr c28
                          have c28b1 : (t169 != 0) = false := bne_eq_false_iff_eq.mpr c28
                          clear c28
                          replace H := Option.bind_eq_some_iff.mp H
                          obtain ⟨⟨t170, t171⟩, A290, H⟩ := H
                          replace H : (if t171 = 0 then (if (x2_3.size : Int) < x7_7 then (gangwaylaw01_OctetsBack.j4 kj17 x2_3 true) else (if 0 ≤ x7_7 then (if x7_7 ≤ (x2_3.size : Int) then (gangwaylaw01_OctetsBack.j4 kj17 x2_3 (t170.toList != (x2_3.extract 0 (x7_7 : Int).toNat).toList)) else (none)) else (none))) else (gangwaylaw01_OctetsBack.j4 kj17 x2_3 true)) = some r := H
                          have A29 := Aside0.mk A290
                          clear A290
                          have HC30 := Aside0.mk H
                          clear H
                          go_upto_region 10 with (first | ((with_reducible refine gate_callee (f := 16) rfl ?_); refine goesL_ (some 73) rfl rfl Tryd.func16 (by kernel_rfl) rfl #[.string x2_3, .int .i64 0, .int .i64 x7_7] rfl (by (try simp only [List.map_toArray, List.map_cons, List.map_nil]); first | done | rfl | (simp only [List.length_drop, List.length_take]; rfl)) ?_; (with_reducible refine (octets_Get.calls kj17 x2_3 0 x7_7 t168 t169 _ ?sideL A27.out).mono ?_); (case sideL => exact laid_below HLD.out (by repeat (first | (with_reducible first | exact HB.out | apply below_alloc | apply pw_below_drewN | apply below_drew1) | exact HB.out))); rintro e w31 ⟨rfl, hb⟩; refine ⟨_, rfl, ?_⟩; have n0_ := Aside0.mk (below_step (by repeat (first | (with_reducible first | exact HB.out | apply below_alloc | apply pw_below_drewN | apply below_drew1) | exact HB.out)) hb); clear HB; have HB := n0_; clear n0_; (try clear hb); (try clear hb2); (try clear hk); (try clear hi)) | ((with_reducible refine gate_callee (f := 9) rfl ?_); refine goesL_ (some 81) rfl rfl Tryd.func9 (by kernel_rfl) rfl #[.int .u64 t168, .int .i64 x7_7] rfl (by (try simp only [List.map_toArray, List.map_cons, List.map_nil]); first | done | rfl | (simp only [List.length_drop, List.length_take]; rfl)) ?_; (with_reducible refine (octets_Put.calls kj17 t168 x7_7 t170 t171 _ A29.out).mono ?_); rintro e w32 ⟨rfl, hb⟩; refine ⟨_, rfl, ?_⟩; have n0_ := Aside0.mk (below_step (by repeat (first | (with_reducible first | exact HB.out | apply below_alloc | apply pw_below_drewN | apply below_drew1) | exact HB.out)) hb); clear HB; have HB := n0_; clear n0_; (try clear hb); (try clear hb2); (try clear hk); (try clear hi)))
                          (try simp only [Act.put, List.setIfInBounds_toArray, List.set_cons_zero, List.set_cons_succ])
                          go_cut [98] (fun v98 wc => ∃ (kq : Nat) (x98_29 : Bool), v98 = .bool x98_29 ∧ Aside0 (gangwaylaw01_OctetsBack.j4 kq x2_3 x98_29 = some r) ∧ Aside0 (kq ≤ kj17) ∧ Aside0 (Below w.heap.size w wc))
                          case first =>
                            have H := HC30.out
                            clear HC30
                            by_cases c33 : t171 = 0
                            · rw [if_pos c33] at H
                              have c33b0 : (t171 == 0) = true := beq_iff_eq.mpr c33
                              have c33b1 : (t171 != 0) = false := bne_eq_false_iff_eq.mpr c33
                              clear c33
                              (first | rw [c33b0] | (simp only [i64_w, i32_w]; rw [c33b0]) | skip)
                              by_cases c34 : (x2_3.size : Int) < x7_7
                              · rw [if_pos c34] at H
                                have c34b0 : decide ((x2_3.size : Int) < x7_7) = true := decide_eq_true c34
                                clear c34
                                have H' := Aside0.mk H
                                clear H
                                go_wp2
                                go_meet
                                case rel => exact ⟨_, (true), (by first | rfl | (simp; done) | (simp [*]; done)), H', ⟨by have := HJ3.out; have := HJ7.out; have := HJ8.out; have := HJ17.out; first | omega | exact Nat.le_refl _⟩, ⟨by repeat (first | (with_reducible first | exact HB.out | apply below_alloc | apply pw_below_drewN | apply below_drew1) | exact HB.out)⟩⟩
                              · rw [if_neg c34] at H
                                have c34b0 : decide ((x2_3.size : Int) < x7_7) = false := decide_eq_false c34
                                clear c34
                                by_cases c35 : 0 ≤ x7_7
                                · rw [if_pos c35] at H
                                  have c35b0 := eq_true c35
                                  have c35b1 : decide (0 ≤ x7_7) = true := decide_eq_true c35
                                  clear c35
                                  by_cases c36 : x7_7 ≤ (x2_3.size : Int)
                                  · rw [if_pos c36] at H
                                    have c36b0 := eq_true c36
                                    have c36b1 : decide (x7_7 ≤ (x2_3.size : Int)) = true := decide_eq_true c36
                                    clear c36
                                    have H' := Aside0.mk H
                                    clear H
                                    go_wp2
                                    go_meet
                                    case rel => exact ⟨_, ((t170.toList != (x2_3.extract 0 (x7_7 : Int).toNat).toList)), (by first | rfl | (simp; done) | (simp [*]; done)), H', ⟨by have := HJ3.out; have := HJ7.out; have := HJ8.out; have := HJ17.out; first | omega | exact Nat.le_refl _⟩, ⟨by repeat (first | (with_reducible first | exact HB.out | apply below_alloc | apply pw_below_drewN | apply below_drew1) | exact HB.out)⟩⟩
                                  · rw [if_neg c36] at H
                                    exact absurd H (by simp)
                                · rw [if_neg c35] at H
                                  exact absurd H (by simp)
                            · rw [if_neg c33] at H
                              have c33b0 : (t171 == 0) = false := beq_eq_false_iff_ne.mpr c33
                              have c33b1 : (t171 != 0) = true := bne_iff_ne.mpr c33
                              (first | rw [c33b0] | (simp only [i64_w, i32_w]; rw [c33b0]) | skip)
                              have H' := Aside0.mk H
                              clear H
                              go_wp2
                              go_meet
                              case rel => exact ⟨_, (true), (by first | rfl | (simp; done) | (simp [*]; done)), H', ⟨by have := HJ3.out; have := HJ7.out; have := HJ8.out; have := HJ17.out; first | omega | exact Nat.le_refl _⟩, ⟨by repeat (first | (with_reducible first | exact HB.out | apply below_alloc | apply pw_below_drewN | apply below_drew1) | exact HB.out)⟩⟩
                          case rest =>
                            clear HC30
                            try clear c1
                            try clear c2
                            try clear p2
                            try clear c3
                            try clear c5
                            try clear c6
                            try clear c6b0
                            try clear c6b1
                            try clear p6
                            try clear c7
                            try clear c7b0
                            try clear c7b1
                            try clear c9
                            try clear c11
                            try clear c11b0
                            try clear c11b1
                            try clear c15
                            try clear c15b0
                            try clear c15b1
                            try clear c15b2
                            try clear c16
                            try clear c16b0
                            try clear c16b1
                            try clear c16b2
                            try clear c20
                            try clear c20b0
                            try clear c20b1
                            try clear c21
                            try clear c21b0
                            try clear c21b1
                            try clear c23
                            try clear c23b0
                            try clear c23b1
                            try clear c25
                            try clear c25b0
                            try clear c25b1
                            try clear c26
                            try clear c28
                            try clear c28b0
                            try clear c28b1
                            try clear c33
                            try clear c33b0
                            try clear c33b1
                            try clear c34
                            try clear c34b0
                            try clear c35
                            try clear c35b0
                            try clear c35b1
                            try clear c36
                            try clear c36b0
                            try clear c36b1
                            try clear p2
                            try clear p6
                            obtain ⟨kq, x98_29, rfl, HA, HJ29, HB⟩ := hcut
                            cases kq with
                            | zero => exact absurd HA.out (by simp [gangwaylaw01_OctetsBack.j4])
                            | succ kj29 =>
                              have H := HA.out
                              clear HA
                              simp only [gangwaylaw01_OctetsBack.j4] at H
                              by_cases c37 : x98_29 = true
                              · subst c37
                                have H1 : (none) = some r := by rw [if_pos rfl] at H; exact H
                                clear H
                                have H := H1
                                clear H1
                                exact absurd H (by simp)
                              · replace c37 := Bool.eq_false_iff.mpr c37
                                subst c37
                                have H1 : ((octets_Hex.f x2_3).bind fun t172 => ((octets_Unhex.f t172).bind fun bt173 => (if bt173.2 = 0 then (if bt173.1.toList = x2_3.toList then (if (t172.size : Int) = (wrap64 (2 * (x2_3.size : Int))) then ((gangwaylaw01_fixed.f kj29).bind fun t175 => (some t175)) else (none)) else (none)) else (none)))) = some r := by rw [if_neg (show ¬ (false = true) by decide)] at H; exact H
                                clear H
                                have H := H1
                                clear H1
                                replace H := Option.bind_eq_some_iff.mp H
                                obtain ⟨t172, A380, H⟩ := H
                                replace H : ((octets_Unhex.f t172).bind fun bt173 => (if bt173.2 = 0 then (if bt173.1.toList = x2_3.toList then (if (t172.size : Int) = (wrap64 (2 * (x2_3.size : Int))) then ((gangwaylaw01_fixed.f kj29).bind fun t175 => (some t175)) else (none)) else (none)) else (none))) = some r := H
                                have A38 := Aside0.mk A380
                                clear A380
                                replace H := Option.bind_eq_some_iff.mp H
                                obtain ⟨⟨t173, t174⟩, A390, H⟩ := H
                                replace H : (if t174 = 0 then (if t173.toList = x2_3.toList then (if (t172.size : Int) = (wrap64 (2 * (x2_3.size : Int))) then ((gangwaylaw01_fixed.f kj29).bind fun t175 => (some t175)) else (none)) else (none)) else (none)) = some r := H
                                have A39 := Aside0.mk A390
                                clear A390
                                by_cases c40 : t174 = 0
                                · rw [if_pos c40] at H
                                  have c40b0 : (t174 == 0) = true := beq_iff_eq.mpr c40
                                  have c40b1 : (t174 != 0) = false := bne_eq_false_iff_eq.mpr c40
                                  clear c40
                                  by_cases c41 : t173.toList = x2_3.toList
                                  · rw [if_pos c41] at H
                                    have c41b0 : (t173.toList == x2_3.toList) = true := beq_iff_eq.mpr c41
                                    have c41b1 : (t173.toList != x2_3.toList) = false := bne_eq_false_iff_eq.mpr c41
                                    clear c41
                                    by_cases c42 : (t172.size : Int) = (wrap64 (2 * (x2_3.size : Int)))
                                    · rw [if_pos c42] at H
                                      have c42b0 : ((t172.size : Int) == (wrap64 (2 * (x2_3.size : Int)))) = true := beq_iff_eq.mpr c42
                                      try (have c42s0 : (t172.size : Int) = 2 * (x2_3.size : Int) := (by have h_ := c42; unfold wrap64 at h_; omega); have c42s1 := eq_true c42s0; have c42s2 : ((t172.size : Int) == 2 * (x2_3.size : Int)) = true := beq_iff_eq.mpr c42s0; clear c42s0)
                                      have c42b1 : ((t172.size : Int) != (wrap64 (2 * (x2_3.size : Int)))) = false := bne_eq_false_iff_eq.mpr c42
                                      clear c42
                                      replace H := Option.bind_eq_some_iff.mp H
                                      obtain ⟨t175, A430, H⟩ := H
                                      replace H : (some t175) = some r := H
                                      have A43 := Aside0.mk A430
                                      clear A430
                                      obtain rfl := Option.some.inj H
                                      go_wp2_with (first | ((with_reducible refine gate_callee (f := 14) rfl ?_); refine goesL_ (some 100) rfl rfl Tryd.func14 (by kernel_rfl) rfl #[.string x2_3] rfl (by (try simp only [List.map_toArray, List.map_cons, List.map_nil]); first | done | rfl | (simp only [List.length_drop, List.length_take]; rfl)) ?_; (with_reducible refine (octets_Hex.calls x2_3 t172 _ A38.out).mono ?_); rintro e w44 ⟨rfl, hb⟩; refine ⟨_, rfl, ?_⟩; have n0_ := Aside0.mk (below_step (by repeat (first | (with_reducible first | exact HB.out | apply below_alloc | apply pw_below_drewN | apply below_drew1) | exact HB.out)) hb); clear HB; have HB := n0_; clear n0_; (try clear hb); (try clear hb2); (try clear hk); (try clear hi)) | ((with_reducible refine gate_callee (f := 12) rfl ?_); refine goesL_ (some 103) rfl rfl Tryd.func12 (by kernel_rfl) rfl #[.string t172] rfl (by (try simp only [List.map_toArray, List.map_cons, List.map_nil]); first | done | rfl | (simp only [List.length_drop, List.length_take]; rfl)) ?_; (with_reducible refine (octets_Unhex.calls t172 t173 t174 _ A39.out).mono ?_); rintro e w45 ⟨rfl, hb⟩; refine ⟨_, rfl, ?_⟩; have n0_ := Aside0.mk (below_step (by repeat (first | (with_reducible first | exact HB.out | apply below_alloc | apply pw_below_drewN | apply below_drew1) | exact HB.out)) hb); clear HB; have HB := n0_; clear n0_; (try clear hb); (try clear hb2); (try clear hk); (try clear hi)) | (go_at_call 11; (with_reducible refine (gangwaylaw01_fixed.calls kj29  t175 _ ?sideL A43.out).mono ?_); (case sideL => exact laid_below HLD.out (by repeat (first | (with_reducible first | exact HB.out | apply below_alloc | apply pw_below_drewN | apply below_drew1) | exact HB.out))); rintro e w46 ⟨rfl, hb⟩; have n0_ := Aside0.mk (below_step (by repeat (first | (with_reducible first | exact HB.out | apply below_alloc | apply pw_below_drewN | apply below_drew1) | exact HB.out)) hb); clear HB; have HB := n0_; clear n0_; (try clear hb); (try clear hb2); (try clear hk); (try clear hi)))
                                      go_ret
                                      exact ⟨by first | rfl | (simp [errW_none, errW_some] <;> rfl) | (simp [*, errW_none, errW_some] <;> rfl) | (simp [*, IntKind.wrap_u32]; done) | (simp_all [IntKind.wrap_u32]; done), by repeat (first | (with_reducible first | exact HB.out | apply below_alloc | apply pw_below_drewN | apply below_drew1) | exact HB.out)⟩
                                    · rw [if_neg c42] at H
                                      exact absurd H (by simp)
                                  · rw [if_neg c41] at H
                                    exact absurd H (by simp)
                                · rw [if_neg c40] at H
                                  exact absurd H (by simp)
                        · rw [if_neg c28] at H
                          have c28b0 : (t169 == 0) = false := beq_eq_false_iff_ne.mpr c28
                          have c28b1 : (t169 != 0) = true := bne_iff_ne.mpr c28
                          replace H := Option.bind_eq_some_iff.mp H
                          obtain ⟨t176, A470, H⟩ := H
                          replace H : ((octets_Unhex.f t176).bind fun bt177 => (if bt177.2 = 0 then (if bt177.1.toList = x2_3.toList then (if (t176.size : Int) = (wrap64 (2 * (x2_3.size : Int))) then ((gangwaylaw01_fixed.f kj17).bind fun t179 => (some t179)) else (none)) else (none)) else (none))) = some r := H
                          have A47 := Aside0.mk A470
                          clear A470
                          replace H := Option.bind_eq_some_iff.mp H
                          obtain ⟨⟨t177, t178⟩, A480, H⟩ := H
                          replace H : (if t178 = 0 then (if t177.toList = x2_3.toList then (if (t176.size : Int) = (wrap64 (2 * (x2_3.size : Int))) then ((gangwaylaw01_fixed.f kj17).bind fun t179 => (some t179)) else (none)) else (none)) else (none)) = some r := H
                          have A48 := Aside0.mk A480
                          clear A480
                          by_cases c49 : t178 = 0
                          · rw [if_pos c49] at H
                            have c49b0 : (t178 == 0) = true := beq_iff_eq.mpr c49
                            have c49b1 : (t178 != 0) = false := bne_eq_false_iff_eq.mpr c49
                            clear c49
                            by_cases c50 : t177.toList = x2_3.toList
                            · rw [if_pos c50] at H
                              have c50b0 : (t177.toList == x2_3.toList) = true := beq_iff_eq.mpr c50
                              have c50b1 : (t177.toList != x2_3.toList) = false := bne_eq_false_iff_eq.mpr c50
                              clear c50
                              by_cases c51 : (t176.size : Int) = (wrap64 (2 * (x2_3.size : Int)))
                              · rw [if_pos c51] at H
                                have c51b0 : ((t176.size : Int) == (wrap64 (2 * (x2_3.size : Int)))) = true := beq_iff_eq.mpr c51
                                try (have c51s0 : (t176.size : Int) = 2 * (x2_3.size : Int) := (by have h_ := c51; unfold wrap64 at h_; omega); have c51s1 := eq_true c51s0; have c51s2 : ((t176.size : Int) == 2 * (x2_3.size : Int)) = true := beq_iff_eq.mpr c51s0; clear c51s0)
                                have c51b1 : ((t176.size : Int) != (wrap64 (2 * (x2_3.size : Int)))) = false := bne_eq_false_iff_eq.mpr c51
                                clear c51
                                replace H := Option.bind_eq_some_iff.mp H
                                obtain ⟨t179, A520, H⟩ := H
                                replace H : (some t179) = some r := H
                                have A52 := Aside0.mk A520
                                clear A520
                                obtain rfl := Option.some.inj H
                                go_wp2_with (first | ((with_reducible refine gate_callee (f := 16) rfl ?_); refine goesL_ (some 73) rfl rfl Tryd.func16 (by kernel_rfl) rfl #[.string x2_3, .int .i64 0, .int .i64 x7_7] rfl (by (try simp only [List.map_toArray, List.map_cons, List.map_nil]); first | done | rfl | (simp only [List.length_drop, List.length_take]; rfl)) ?_; (with_reducible refine (octets_Get.calls kj17 x2_3 0 x7_7 t168 t169 _ ?sideL A27.out).mono ?_); (case sideL => exact laid_below HLD.out (by repeat (first | (with_reducible first | exact HB.out | apply below_alloc | apply pw_below_drewN | apply below_drew1) | exact HB.out))); rintro e w53 ⟨rfl, hb⟩; refine ⟨_, rfl, ?_⟩; have n0_ := Aside0.mk (below_step (by repeat (first | (with_reducible first | exact HB.out | apply below_alloc | apply pw_below_drewN | apply below_drew1) | exact HB.out)) hb); clear HB; have HB := n0_; clear n0_; (try clear hb); (try clear hb2); (try clear hk); (try clear hi)) | ((with_reducible refine gate_callee (f := 14) rfl ?_); refine goesL_ (some 100) rfl rfl Tryd.func14 (by kernel_rfl) rfl #[.string x2_3] rfl (by (try simp only [List.map_toArray, List.map_cons, List.map_nil]); first | done | rfl | (simp only [List.length_drop, List.length_take]; rfl)) ?_; (with_reducible refine (octets_Hex.calls x2_3 t176 _ A47.out).mono ?_); rintro e w54 ⟨rfl, hb⟩; refine ⟨_, rfl, ?_⟩; have n0_ := Aside0.mk (below_step (by repeat (first | (with_reducible first | exact HB.out | apply below_alloc | apply pw_below_drewN | apply below_drew1) | exact HB.out)) hb); clear HB; have HB := n0_; clear n0_; (try clear hb); (try clear hb2); (try clear hk); (try clear hi)) | ((with_reducible refine gate_callee (f := 12) rfl ?_); refine goesL_ (some 103) rfl rfl Tryd.func12 (by kernel_rfl) rfl #[.string t176] rfl (by (try simp only [List.map_toArray, List.map_cons, List.map_nil]); first | done | rfl | (simp only [List.length_drop, List.length_take]; rfl)) ?_; (with_reducible refine (octets_Unhex.calls t176 t177 t178 _ A48.out).mono ?_); rintro e w55 ⟨rfl, hb⟩; refine ⟨_, rfl, ?_⟩; have n0_ := Aside0.mk (below_step (by repeat (first | (with_reducible first | exact HB.out | apply below_alloc | apply pw_below_drewN | apply below_drew1) | exact HB.out)) hb); clear HB; have HB := n0_; clear n0_; (try clear hb); (try clear hb2); (try clear hk); (try clear hi)) | (go_at_call 11; (with_reducible refine (gangwaylaw01_fixed.calls kj17  t179 _ ?sideL A52.out).mono ?_); (case sideL => exact laid_below HLD.out (by repeat (first | (with_reducible first | exact HB.out | apply below_alloc | apply pw_below_drewN | apply below_drew1) | exact HB.out))); rintro e w56 ⟨rfl, hb⟩; have n0_ := Aside0.mk (below_step (by repeat (first | (with_reducible first | exact HB.out | apply below_alloc | apply pw_below_drewN | apply below_drew1) | exact HB.out)) hb); clear HB; have HB := n0_; clear n0_; (try clear hb); (try clear hb2); (try clear hk); (try clear hi)))
                                go_ret
                                exact ⟨by first | rfl | (simp [errW_none, errW_some] <;> rfl) | (simp [*, errW_none, errW_some] <;> rfl) | (simp [*, IntKind.wrap_u32]; done) | (simp_all [IntKind.wrap_u32]; done), by repeat (first | (with_reducible first | exact HB.out | apply below_alloc | apply pw_below_drewN | apply below_drew1) | exact HB.out)⟩
                              · rw [if_neg c51] at H
                                exact absurd H (by simp)
                            · rw [if_neg c50] at H
                              exact absurd H (by simp)
                          · rw [if_neg c49] at H
                            exact absurd H (by simp)
                · rw [if_neg c16] at H
                  exact absurd H (by simp)
              · rw [if_neg c15] at H
                exact absurd H (by simp)


end Go.Proofs.YtclffgkefbdcpaaDoor.P
