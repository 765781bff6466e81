-- Written by wip/hprint.py (this session's program) through the kit's print program; hand contracts are marked 'by hand'.
import Derived.Test.YtclffgkefbdcpaaDoorPx0
import Derived.Test.YtclffgkefbdcpaaDoorPx1
import Derived.Test.YtclffgkefbdcpaaDoorPx8
namespace Go.Proofs.YtclffgkefbdcpaaDoor.P
open Go.RowKit Go.Proofs.YtclffgkefbdcpaaDoorW.PrintWords Go.Proofs.YtclffgkefbdcpaaDoorW.PrintLast Go.Proofs.YtclffgkefbdcpaaDoorW.PrintMore
attribute [local go_sem] max2_int min2_int max_two min_two max_three min_three max_four min_four   -- for this text's walks alone
set_option linter.unusedVariables false
set_option linter.unusedSimpArgs false

/-! ### gangwaylaw01_OctetsLess: function 7 -/
mutual
def gangwaylaw01_OctetsLess.j0 : Nat → Int → Int → Option (Bool)
  | 0, _, _ => none
  | k + 1, x0, x5 => (octets_Put.f k x0 x5).bind fun bt193 => ((octets_Put.f k x0 (wrap64 (x5 + 1))).bind fun bt195 => (if 0 ≤ (wrap64 (8 * x5)) then (gangwaylaw01_OctetsLess.j1 k bt193.1 bt193.2 bt195.1 bt195.2 ((shr .u64 x0 (wrap64 (8 * x5))) == 0)) else (none)))
def gangwaylaw01_OctetsLess.j1 : Nat → ByteArray → Int → ByteArray → Int → Bool → Option (Bool)
  | 0, _, _, _, _, _ => none
  | k + 1, x6, x7, x8, x9, x10 => if (x10 != (x7 == 0)) = true then (none) else (if x7 = 0 then (if x9 = 0 then (if 1 + x6.size ≤ 9223372036854775807 then (if x8.toList = ((⟨#[0]⟩ : ByteArray) ++ x6).toList then ((gangwaylaw01_fixed.f k).bind fun t197 => (some t197)) else (none)) else (none)) else (none)) else (if x6.toList = ([] : List UInt8) then ((gangwaylaw01_fixed.f k).bind fun t198 => (some t198)) else (none)))
end
def gangwaylaw01_OctetsLess.f (k : Nat) (a0 : Int) (a1 : Int) : Option (Bool) := gangwaylaw01_OctetsLess.j0 k a0 (wrap64 (1 + (Int.tmod (Go.bits .and .i64 a1 65535) 7)))
theorem gangwaylaw01_OctetsLess.mono_l : ∀ k, (∀ y0 y1, LeO (gangwaylaw01_OctetsLess.j0 k y0 y1) (gangwaylaw01_OctetsLess.j0 (k + 1) y0 y1)) ∧ (∀ y0 y1 y2 y3 y4, LeO (gangwaylaw01_OctetsLess.j1 k y0 y1 y2 y3 y4) (gangwaylaw01_OctetsLess.j1 (k + 1) y0 y1 y2 y3 y4))
  | 0 => ⟨fun _ _ r h => by simp [gangwaylaw01_OctetsLess.j0] at h, fun _ _ _ _ _ r h => by simp [gangwaylaw01_OctetsLess.j1] at h⟩
  | k + 1 => by
    obtain ⟨ih0, ih1⟩ := gangwaylaw01_OctetsLess.mono_l k
    refine ⟨?_, ?_⟩
    · intro y0 y1
      unfold gangwaylaw01_OctetsLess.j0
      repeat' first
      | (with_reducible exact ih0 _ _)
      | (with_reducible exact ih1 _ _ _ _ _)
      | (with_reducible exact gangwaylaw01_fixed.mono _)
      | (with_reducible exact octets_Put.mono _ _ _)
      | (with_reducible exact LeO.refl _)
      | (with_reducible exact LeO.none _)
      | (with_reducible refine LeO.ite ?_ ?_)
      | (with_reducible refine LeO.bind ?_ (fun _ => ?_))
      | exact ih0 _ _
      | exact ih1 _ _ _ _ _
      | exact gangwaylaw01_fixed.mono _
      | exact octets_Put.mono _ _ _
      | exact LeO.none _
      | refine LeO.ite ?_ ?_
      | refine LeO.bind ?_ (fun _ => ?_)
    · intro y0 y1 y2 y3 y4
      unfold gangwaylaw01_OctetsLess.j1
      repeat' first
      | (with_reducible exact ih0 _ _)
      | (with_reducible exact ih1 _ _ _ _ _)
      | (with_reducible exact gangwaylaw01_fixed.mono _)
      | (with_reducible exact octets_Put.mono _ _ _)
      | (with_reducible exact LeO.refl _)
      | (with_reducible exact LeO.none _)
      | (with_reducible refine LeO.ite ?_ ?_)
      | (with_reducible refine LeO.bind ?_ (fun _ => ?_))
      | exact ih0 _ _
      | exact ih1 _ _ _ _ _
      | exact gangwaylaw01_fixed.mono _
      | exact octets_Put.mono _ _ _
      | exact LeO.none _
      | refine LeO.ite ?_ ?_
      | refine LeO.bind ?_ (fun _ => ?_)
theorem gangwaylaw01_OctetsLess.mono : ∀ a0 a1 k, LeO (gangwaylaw01_OctetsLess.f k a0 a1) (gangwaylaw01_OctetsLess.f (k + 1) a0 a1) := by
  intro a0 a1 k
  obtain ⟨ih0, ih1⟩ := gangwaylaw01_OctetsLess.mono_l k
  unfold gangwaylaw01_OctetsLess.f
  repeat' first
      | (with_reducible exact ih0 _ _)
      | (with_reducible exact ih1 _ _ _ _ _)
      | (with_reducible exact gangwaylaw01_fixed.mono _)
      | (with_reducible exact octets_Put.mono _ _ _)
      | (with_reducible exact LeO.refl _)
      | (with_reducible exact LeO.none _)
      | (with_reducible refine LeO.ite ?_ ?_)
      | (with_reducible refine LeO.bind ?_ (fun _ => ?_))
      | exact ih0 _ _
      | exact ih1 _ _ _ _ _
      | exact gangwaylaw01_fixed.mono _
      | exact octets_Put.mono _ _ _
      | exact LeO.none _
      | refine LeO.ite ?_ ?_
      | refine LeO.bind ?_ (fun _ => ?_)
set_option maxHeartbeats 8000000 in
set_option maxRecDepth 100000 in
theorem gangwaylaw01_OctetsLess.calls (k : Nat) (a0 : Int) (a1 : Int) (r : Bool) (w : World) (hL : Laid w) (h : gangwaylaw01_OctetsLess.f k a0 a1 = some r) :
    Calls Tryd.prog 7 #[.int .u64 a0, .int .i64 a1] w fun e w' => e = .returned (.bool r) ∧ Below w.heap.size w w' := by
  have HLD := Aside0.mk hL
  clear hL
  have HB := Aside0.mk (Below.refl w.heap.size w)
  have H : (gangwaylaw01_OctetsLess.j0 k a0 (wrap64 (1 + (Int.tmod (Go.bits .and .i64 a1 65535) 7)))) = some r := h
  clear h
  have HC3 := Aside0.mk H
  clear H
  go_enter Tryd.func7, Tryd.ntmps7
  go_upto_region 1 with (fail)
  go_cut [5] (fun v5 wc => ∃ (kq : Nat) (x5_2 : Int), v5 = .int .i64 x5_2 ∧ Aside0 (gangwaylaw01_OctetsLess.j0 kq a0 x5_2 = some r) ∧ Aside0 (kq ≤ k) ∧ Aside0 (Below w.heap.size w wc))
  case first =>
    have H := HC3.out
    clear HC3
    have H' := Aside0.mk H
    clear H
    go_wp2
    go_meet
    case rel => exact ⟨_, (wrap64 (1 + (Int.tmod (Go.bits .and .i64 a1 65535) 7))), (by first | rfl | (simp; done) | (simp [*]; done)), H', ⟨by first | omega | exact Nat.le_refl _⟩, ⟨by repeat (first | (with_reducible first | exact HB.out | apply below_alloc | apply pw_below_drewN | apply below_drew1) | exact HB.out)⟩⟩
  case rest =>
    clear HC3
    try clear p2
    obtain ⟨kq, x5_2, rfl, HA, HJ2, HB⟩ := hcut
    cases kq with
    | zero => exact absurd HA.out (by simp [gangwaylaw01_OctetsLess.j0])
    | succ kj2 =>
      have H := HA.out
      clear HA
      simp only [gangwaylaw01_OctetsLess.j0] at H
      replace H := Option.bind_eq_some_iff.mp H
      obtain ⟨⟨t193, t194⟩, A40, H⟩ := H
      replace H : ((octets_Put.f kj2 a0 (wrap64 (x5_2 + 1))).bind fun bt195 => (if 0 ≤ (wrap64 (8 * x5_2)) then (gangwaylaw01_OctetsLess.j1 kj2 t193 t194 bt195.1 bt195.2 ((shr .u64 a0 (wrap64 (8 * x5_2))) == 0)) else (none))) = some r := H
      have A4 := Aside0.mk A40
      clear A40
      replace H := Option.bind_eq_some_iff.mp H
      obtain ⟨⟨t195, t196⟩, A50, H⟩ := H
      replace H : (if 0 ≤ (wrap64 (8 * x5_2)) then (gangwaylaw01_OctetsLess.j1 kj2 t193 t194 t195 t196 ((shr .u64 a0 (wrap64 (8 * x5_2))) == 0)) else (none)) = some r := H
      have A5 := Aside0.mk A50
      clear A50
      have HC6 := Aside0.mk H
      clear H
      go_upto_region 4 with (first | ((with_reducible refine gate_callee (f := 9) rfl ?_); refine goesL_ (some 18) rfl rfl Tryd.func9 (by kernel_rfl) rfl #[.int .u64 a0, .int .i64 x5_2] rfl (by (try simp only [List.map_toArray, List.map_cons, List.map_nil]); first | done | rfl | (simp only [List.length_drop, List.length_take]; rfl)) ?_; (with_reducible refine (octets_Put.calls kj2 a0 x5_2 t193 t194 _ A4.out).mono ?_); rintro e w7 ⟨rfl, hb⟩; refine ⟨_, rfl, ?_⟩; have n0_ := Aside0.mk (below_step (by repeat (first | (with_reducible first | exact HB.out | apply below_alloc | apply pw_below_drewN | apply below_drew1) | exact HB.out)) hb); clear HB; have HB := n0_; clear n0_; (try clear hb); (try clear hb2); (try clear hk); (try clear hi)) | ((with_reducible refine gate_callee (f := 9) rfl ?_); refine goesL_ (some 25) rfl rfl Tryd.func9 (by kernel_rfl) rfl #[.int .u64 a0, .int .i64 (wrap64 (x5_2 + 1))] rfl (by (try simp only [List.map_toArray, List.map_cons, List.map_nil]); first | done | rfl | (simp only [List.length_drop, List.length_take]; rfl)) ?_; (with_reducible refine (octets_Put.calls kj2 a0 (wrap64 (x5_2 + 1)) t195 t196 _ A5.out).mono ?_); rintro e w8 ⟨rfl, hb⟩; refine ⟨_, rfl, ?_⟩; have n0_ := Aside0.mk (below_step (by repeat (first | (with_reducible first | exact HB.out | apply below_alloc | apply pw_below_drewN | apply below_drew1) | exact HB.out)) hb); clear HB; have HB := n0_; clear n0_; (try clear hb); (try clear hb2); (try clear hk); (try clear hi)))
      (try simp only [Act.put, List.setIfInBounds_toArray, List.set_cons_zero, List.set_cons_succ])
      go_cut [10] (fun v10 wc => ∃ (kq : Nat) (x10_5 : Bool), v10 = .bool x10_5 ∧ Aside0 (gangwaylaw01_OctetsLess.j1 kq t193 t194 t195 t196 x10_5 = some r) ∧ Aside0 (kq ≤ kj2) ∧ Aside0 (Below w.heap.size w wc))
      case first =>
        have H := HC6.out
        clear HC6
        obtain ⟨ji9, hji9⟩ : ∃ j_ : Int, (wrap64 (8 * x5_2)) = j_ := ⟨_, rfl⟩
        replace H : (if 0 ≤ (ji9) then (gangwaylaw01_OctetsLess.j1 kj2 t193 t194 t195 t196 ((shr .u64 a0 (ji9)) == 0)) else (none)) = some r := by first | (rw [hji9] at H; exact H) | (simp only [hji9] at H ⊢; exact H)
        have hji9w : (IntKind.i64.wrap (8 * x5_2)) = ji9 := (i64_w _).trans hji9
        by_cases c10 : 0 ≤ (ji9)
        · rw [if_pos c10] at H
          have c10b0 := eq_true c10
          have c10b1 : decide (0 ≤ (ji9)) = true := decide_eq_true c10
          clear c10
          obtain ⟨ji11, hji11⟩ : ∃ j_ : Int, (shr .u64 a0 (ji9)) = j_ := ⟨_, rfl⟩
          replace H : (gangwaylaw01_OctetsLess.j1 kj2 t193 t194 t195 t196 ((ji11) == 0)) = some r := by first | (rw [hji11] at H; exact H) | (simp only [hji11] at H ⊢; exact H)
          have hji11_ : (a0 / 2 ^ min (ji9).toNat 64) = ji11 := hji11
          have hji11z : (ji9) ≤ 64 → (a0 / 2 ^ (ji9).toNat) = ji11 := shr_small hji11
          have H' := Aside0.mk H
          clear H
          go_wp2
          go_meet
          case rel => exact ⟨_, (((ji11) == 0)), (by first | rfl | (simp; done) | (simp only [← hji11] <;> (first | rfl | simp)) | (simp [*]; done)), H', ⟨by have := HJ2.out; first | omega | exact Nat.le_refl _⟩, ⟨by repeat (first | (with_reducible first | exact HB.out | apply below_alloc | apply pw_below_drewN | apply below_drew1) | exact HB.out)⟩⟩
        · rw [if_neg c10] at H
          exact absurd H (by simp)
      case rest =>
        clear HC6
        try clear c1
        try clear p2
        try clear p6
        try clear c7
        try clear c9
        try clear c10
        try clear c10b0
        try clear c10b1
        try clear p2
        obtain ⟨kq, x10_5, rfl, HA, HJ5, HB⟩ := hcut
        cases kq with
        | zero => exact absurd HA.out (by simp [gangwaylaw01_OctetsLess.j1])
        | succ kj5 =>
          have H := HA.out
          clear HA
          simp only [gangwaylaw01_OctetsLess.j1] at H
          by_cases c12 : (x10_5 != (t194 == 0)) = true
          · rw [if_pos c12] at H
            exact absurd H (by simp)
          · rw [if_neg c12] at H
            have c12b0 : (x10_5 != (t194 == 0)) = false := by simpa using c12
            (try (have c12b1 : decide (x10_5 = (t194 == 0)) = true := by simpa using c12))
            (try (have c12b2 : (x10_5 == (t194 == 0)) = true := by simpa using c12))
            clear c12
            by_cases c13 : t194 = 0
            · rw [if_pos c13] at H
              have c13b0 : (t194 == 0) = true := beq_iff_eq.mpr c13
              try (have c13x : x10_5 = true := by simpa [c13b0] using c12b0)
              try (have c13x : x10_5 = false := by simpa [c13b0] using c12b0)
              have c13b1 : (t194 != 0) = false := bne_eq_false_iff_eq.mpr c13
              clear c13
              by_cases c14 : t196 = 0
              · rw [if_pos c14] at H
                have c14b0 : (t196 == 0) = true := beq_iff_eq.mpr c14
                have c14b1 : (t196 != 0) = false := bne_eq_false_iff_eq.mpr c14
                clear c14
                by_cases c15 : 1 + t193.size ≤ 9223372036854775807
                · rw [if_pos c15] at H
                  have c15b0 := eq_true c15
                  have c15b1 : decide (1 + t193.size ≤ 9223372036854775807) = true := decide_eq_true c15
                  try have c15b2 : (9223372036854775807 < 1 + t193.size) = False := eq_false (Nat.not_lt.2 c15)
                  by_cases c16 : t195.toList = ((⟨#[0]⟩ : ByteArray) ++ t193).toList
                  · rw [if_pos c16] at H
                    have c16b0 : (t195.toList == ((⟨#[0]⟩ : ByteArray) ++ t193).toList) = true := beq_iff_eq.mpr c16
                    have c16b1 : (t195.toList != ((⟨#[0]⟩ : ByteArray) ++ t193).toList) = false := bne_eq_false_iff_eq.mpr c16
                    clear c16
                    replace H := Option.bind_eq_some_iff.mp H
                    obtain ⟨t197, A170, H⟩ := H
                    replace H : (some t197) = some r := H
                    have A17 := Aside0.mk A170
                    clear A170
                    obtain rfl := Option.some.inj H
                    go_wp2_with (first | (go_at_call 11; (with_reducible refine (gangwaylaw01_fixed.calls kj5  t197 _ ?sideL A17.out).mono ?_); (case sideL => exact laid_below HLD.out (by repeat (first | (with_reducible first | exact HB.out | apply below_alloc | apply pw_below_drewN | apply below_drew1) | exact HB.out))); rintro e w18 ⟨rfl, hb⟩; have n0_ := Aside0.mk (below_step (by repeat (first | (with_reducible first | exact HB.out | apply below_alloc | apply pw_below_drewN | apply below_drew1) | exact HB.out)) hb); clear HB; have HB := n0_; clear n0_; (try clear hb); (try clear hb2); (try clear hk); (try clear hi)))
                    go_ret
                    exact ⟨by first | rfl | (simp [errW_none, errW_some] <;> rfl) | (simp [*, errW_none, errW_some] <;> rfl) | (simp [*, IntKind.wrap_u32]; done) | (simp_all [IntKind.wrap_u32]; done), by repeat (first | (with_reducible first | exact HB.out | apply below_alloc | apply pw_below_drewN | apply below_drew1) | exact HB.out)⟩
                  · rw [if_neg c16] at H
                    exact absurd H (by simp)
                · rw [if_neg c15] at H
                  exact absurd H (by simp)
              · rw [if_neg c14] at H
                exact absurd H (by simp)
            · rw [if_neg c13] at H
              have c13b0 : (t194 == 0) = false := beq_eq_false_iff_ne.mpr c13
              try (have c13x : x10_5 = true := by simpa [c13b0] using c12b0)
              try (have c13x : x10_5 = false := by simpa [c13b0] using c12b0)
              have c13b1 : (t194 != 0) = true := bne_iff_ne.mpr c13
              by_cases c19 : t193.toList = ([] : List UInt8)
              · rw [if_pos c19] at H
                have c19b0 : (t193.toList == ([] : List UInt8)) = true := beq_iff_eq.mpr c19
                have c19b1 : (t193.toList != ([] : List UInt8)) = false := bne_eq_false_iff_eq.mpr c19
                clear c19
                replace H := Option.bind_eq_some_iff.mp H
                obtain ⟨t198, A200, H⟩ := H
                replace H : (some t198) = some r := H
                have A20 := Aside0.mk A200
                clear A200
                obtain rfl := Option.some.inj H
                go_wp2_with (first | (go_at_call 11; (with_reducible refine (gangwaylaw01_fixed.calls kj5  t198 _ ?sideL A20.out).mono ?_); (case sideL => exact laid_below HLD.out (by repeat (first | (with_reducible first | exact HB.out | apply below_alloc | apply pw_below_drewN | apply below_drew1) | exact HB.out))); rintro e w21 ⟨rfl, hb⟩; have n0_ := Aside0.mk (below_step (by repeat (first | (with_reducible first | exact HB.out | apply below_alloc | apply pw_below_drewN | apply below_drew1) | exact HB.out)) hb); clear HB; have HB := n0_; clear n0_; (try clear hb); (try clear hb2); (try clear hk); (try clear hi)))
                go_ret
                exact ⟨by first | rfl | (simp [errW_none, errW_some] <;> rfl) | (simp [*, errW_none, errW_some] <;> rfl) | (simp [*, IntKind.wrap_u32]; done) | (simp_all [IntKind.wrap_u32]; done), by repeat (first | (with_reducible first | exact HB.out | apply below_alloc | apply pw_below_drewN | apply below_drew1) | exact HB.out)⟩
              · rw [if_neg c19] at H
                exact absurd H (by simp)


end Go.Proofs.YtclffgkefbdcpaaDoor.P
