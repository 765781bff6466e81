-- Written by wip/hprint.py (this session's program) through the kit's print program; hand contracts are marked 'by hand'.
import Derived.Test.YtjlikmonnnbnaaaDoorPx0
import Derived.Test.YtjlikmonnnbnaaaDoorPx1
import Derived.Test.YtjlikmonnnbnaaaDoorPx7
import Derived.Test.YtjlikmonnnbnaaaDoorPx12
import Derived.Test.YtjlikmonnnbnaaaDoorPx16
namespace Go.Proofs.YtjlikmonnnbnaaaDoor.P
open Go.RowKit Go.Proofs.YtjlikmonnnbnaaaDoorW.PrintWords Go.Proofs.YtjlikmonnnbnaaaDoorW.PrintLast Go.Proofs.YtjlikmonnnbnaaaDoorW.PrintMore
attribute [local go_sem] max2_int min2_int max_two min_two max_three min_three max_four min_four   -- for this text's walks alone
set_option linter.unusedVariables false
set_option linter.unusedSimpArgs false

attribute [local go_sem high] eqA25
/-! ### gangwaylaw05_ArpBack: function 4 -/
mutual
def gangwaylaw05_ArpBack.j0 : Nat → ByteArray → Int → Int → Int → Int → Int → Option (Bool)
  | 0, _, _, _, _, _, _ => none
  | k + 1, x1, x231000, x231001, x231002, x231003, x231004 => (arp_Build.f k x231000 x231001 x231002 x231003 x231004).bind fun bt231 => (if bt231.2 = 0 then (if bt231.1.size + x1.size ≤ 9223372036854775807 then ((arp_Parse.f k (bt231.1 ++ x1)).bind fun bt233 => (if bt233.2.2.2.2.2 = 0 then (if (!(bt233.1 == x231000) || (!(bt233.2.1 == x231001) || (!(bt233.2.2.1 == x231002) || (!(bt233.2.2.2.1 == x231003) || (!(bt233.2.2.2.2.1 == x231004)))))) = true then (none) else (if (bt231.1.size : Int) = 28 then (gangwaylaw05_ArpBack.j1 k x1) else (none))) else (none))) else (none)) else (gangwaylaw05_ArpBack.j1 k x1))
def gangwaylaw05_ArpBack.j1 : Nat → ByteArray → Option (Bool)
  | 0, _ => none
  | k + 1, x1 => (arp_Parse.f k x1).bind fun bt240 => (if bt240.2.2.2.2.2 = 0 then ((arp_Build.f k bt240.1 bt240.2.1 bt240.2.2.1 bt240.2.2.2.1 bt240.2.2.2.2.1).bind fun bt247 => (if bt247.2 = 0 then (if (x1.size : Int) ≥ 28 then (if 0 ≤ 28 then (if 28 ≤ (x1.size : Int) then (if bt247.1.toList = (x1.extract 0 28).toList then ((gangwaylaw05_fixed.f k).bind fun t249 => (gangwaylaw05_ArpBack.j2 k t249)) else (gangwaylaw05_ArpBack.j2 k false)) else (none)) else (none)) else (gangwaylaw05_ArpBack.j2 k false)) else (gangwaylaw05_ArpBack.j2 k false))) else (if (bt240.1 == 0 && (bt240.2.1 == 0 && (bt240.2.2.1 == 0 && (bt240.2.2.2.1 == 0 && (bt240.2.2.2.2.1 == 0))))) = true then ((gangwaylaw05_fixed.f k).bind fun t250 => (some t250)) else (none)))
def gangwaylaw05_ArpBack.j2 : Nat → Bool → Option (Bool)
  | 0, _ => none
  | k + 1, x4 => some x4
end
def gangwaylaw05_ArpBack.f (k : Nat) (a0_0 : Int) (a0_1 : Int) (a0_2 : Int) (a0_3 : Int) (a0_4 : Int) (a1 : ByteArray) : Option (Bool) := if 0 ≤ (mn (a1.size : Int) 100) then (if (mn (a1.size : Int) 100) ≤ (a1.size : Int) then (gangwaylaw05_ArpBack.j0 k (a1.extract 0 ((mn (a1.size : Int) 100) : Int).toNat) a0_0 a0_1 a0_2 a0_3 a0_4) else (none)) else (none)
theorem gangwaylaw05_ArpBack.mono_l : ∀ k, (∀ y0 y1 y2 y3 y4 y5, LeO (gangwaylaw05_ArpBack.j0 k y0 y1 y2 y3 y4 y5) (gangwaylaw05_ArpBack.j0 (k + 1) y0 y1 y2 y3 y4 y5)) ∧ (∀ y0, LeO (gangwaylaw05_ArpBack.j1 k y0) (gangwaylaw05_ArpBack.j1 (k + 1) y0)) ∧ (∀ y0, LeO (gangwaylaw05_ArpBack.j2 k y0) (gangwaylaw05_ArpBack.j2 (k + 1) y0))
  | 0 => ⟨fun _ _ _ _ _ _ r h => by simp [gangwaylaw05_ArpBack.j0] at h, fun _ r h => by simp [gangwaylaw05_ArpBack.j1] at h, fun _ r h => by simp [gangwaylaw05_ArpBack.j2] at h⟩
  | k + 1 => by
    obtain ⟨ih0, ih1, ih2⟩ := gangwaylaw05_ArpBack.mono_l k
    refine ⟨?_, ?_, ?_⟩
    · intro y0 y1 y2 y3 y4 y5
      unfold gangwaylaw05_ArpBack.j0
      repeat' first
      | (with_reducible exact ih0 _ _ _ _ _ _)
      | (with_reducible exact ih1 _)
      | (with_reducible exact ih2 _)
      | (with_reducible exact arp_Build.mono _ _ _ _ _ _)
      | (with_reducible exact arp_Parse.mono _ _)
      | (with_reducible exact gangwaylaw05_fixed.mono _)
      | (with_reducible exact LeO.refl _)
      | (with_reducible exact LeO.none _)
      | (with_reducible refine LeO.ite ?_ ?_)
      | (with_reducible refine LeO.bind ?_ (fun _ => ?_))
      | exact ih0 _ _ _ _ _ _
      | exact ih1 _
      | exact ih2 _
      | exact arp_Build.mono _ _ _ _ _ _
      | exact arp_Parse.mono _ _
      | exact gangwaylaw05_fixed.mono _
      | exact LeO.none _
      | refine LeO.ite ?_ ?_
      | refine LeO.bind ?_ (fun _ => ?_)
    · intro y0
      unfold gangwaylaw05_ArpBack.j1
      repeat' first
      | (with_reducible exact ih0 _ _ _ _ _ _)
      | (with_reducible exact ih1 _)
      | (with_reducible exact ih2 _)
      | (with_reducible exact arp_Build.mono _ _ _ _ _ _)
      | (with_reducible exact arp_Parse.mono _ _)
      | (with_reducible exact gangwaylaw05_fixed.mono _)
      | (with_reducible exact LeO.refl _)
      | (with_reducible exact LeO.none _)
      | (with_reducible refine LeO.ite ?_ ?_)
      | (with_reducible refine LeO.bind ?_ (fun _ => ?_))
      | exact ih0 _ _ _ _ _ _
      | exact ih1 _
      | exact ih2 _
      | exact arp_Build.mono _ _ _ _ _ _
      | exact arp_Parse.mono _ _
      | exact gangwaylaw05_fixed.mono _
      | exact LeO.none _
      | refine LeO.ite ?_ ?_
      | refine LeO.bind ?_ (fun _ => ?_)
    · intro y0
      unfold gangwaylaw05_ArpBack.j2
      repeat' first
      | (with_reducible exact ih0 _ _ _ _ _ _)
      | (with_reducible exact ih1 _)
      | (with_reducible exact ih2 _)
      | (with_reducible exact arp_Build.mono _ _ _ _ _ _)
      | (with_reducible exact arp_Parse.mono _ _)
      | (with_reducible exact gangwaylaw05_fixed.mono _)
      | (with_reducible exact LeO.refl _)
      | (with_reducible exact LeO.none _)
      | (with_reducible refine LeO.ite ?_ ?_)
      | (with_reducible refine LeO.bind ?_ (fun _ => ?_))
      | exact ih0 _ _ _ _ _ _
      | exact ih1 _
      | exact ih2 _
      | exact arp_Build.mono _ _ _ _ _ _
      | exact arp_Parse.mono _ _
      | exact gangwaylaw05_fixed.mono _
      | exact LeO.none _
      | refine LeO.ite ?_ ?_
      | refine LeO.bind ?_ (fun _ => ?_)
theorem gangwaylaw05_ArpBack.mono : ∀ a0 a1 a2 a3 a4 a5 k, LeO (gangwaylaw05_ArpBack.f k a0 a1 a2 a3 a4 a5) (gangwaylaw05_ArpBack.f (k + 1) a0 a1 a2 a3 a4 a5) := by
  intro a0 a1 a2 a3 a4 a5 k
  obtain ⟨ih0, ih1, ih2⟩ := gangwaylaw05_ArpBack.mono_l k
  unfold gangwaylaw05_ArpBack.f
  repeat' first
      | (with_reducible exact ih0 _ _ _ _ _ _)
      | (with_reducible exact ih1 _)
      | (with_reducible exact ih2 _)
      | (with_reducible exact arp_Build.mono _ _ _ _ _ _)
      | (with_reducible exact arp_Parse.mono _ _)
      | (with_reducible exact gangwaylaw05_fixed.mono _)
      | (with_reducible exact LeO.refl _)
      | (with_reducible exact LeO.none _)
      | (with_reducible refine LeO.ite ?_ ?_)
      | (with_reducible refine LeO.bind ?_ (fun _ => ?_))
      | exact ih0 _ _ _ _ _ _
      | exact ih1 _
      | exact ih2 _
      | exact arp_Build.mono _ _ _ _ _ _
      | exact arp_Parse.mono _ _
      | exact gangwaylaw05_fixed.mono _
      | exact LeO.none _
      | refine LeO.ite ?_ ?_
      | refine LeO.bind ?_ (fun _ => ?_)
set_option maxHeartbeats 8000000 in
set_option maxRecDepth 100000 in
theorem gangwaylaw05_ArpBack.calls (k : Nat) (a0_0 : Int) (a0_1 : Int) (a0_2 : Int) (a0_3 : Int) (a0_4 : Int) (a1 : ByteArray) (r : Bool) (w : World) (h : gangwaylaw05_ArpBack.f k a0_0 a0_1 a0_2 a0_3 a0_4 a1 = some r) :
    Calls Tryd.prog 4 #[.agg #[.int .i64 a0_0, .int .u64 a0_1, .int .u32 a0_2, .int .u64 a0_3, .int .u32 a0_4], .string a1] w fun e w' => e = .returned (.bool r) ∧ Below w.heap.size w w' := by
  have hu25 := Tryd.underlying25
  have HB := Aside0.mk (Below.refl w.heap.size w)
  have H : (if 0 ≤ (mn (a1.size : Int) 100) then (if (mn (a1.size : Int) 100) ≤ (a1.size : Int) then (gangwaylaw05_ArpBack.j0 k (a1.extract 0 ((mn (a1.size : Int) 100) : Int).toNat) a0_0 a0_1 a0_2 a0_3 a0_4) else (none)) else (none)) = some r := h
  clear h
  have HC3 := Aside0.mk H
  clear H
  go_enter Tryd.func4, Tryd.ntmps4
  go_upto_region 1 with (first | ((with_reducible refine gate_dst (N := 2) rfl ?_); (try (refine gate_guard (by rfl) ?_; dsimp only)); refine box_event ?hg (N := 2) ?hd (cs := #[.int .i64 a0_0, .int .u64 a0_1, .int .u32 a0_2, .int .u64 a0_3, .int .u32 a0_4]) (t := 25) ?hr ?_; (case hd => rfl); (case hg => rfl); (case hr => first | (go_simp; done) | (go_simp; rfl)); intro gb230 hg w4 hbox hb; have n0_ := Aside0.mk (below_step (by repeat (first | (with_reducible first | exact HB.out | apply below_alloc | apply pw_below_drewN | apply below_drew1) | exact HB.out)) hb); have n1_ := Aside0.mk (hbox); have n2_ := Aside0.mk ((by rw [hg]; exact (below_size (by repeat (first | (with_reducible first | exact HB.out | apply below_alloc | apply pw_below_drewN | apply below_drew1) | exact HB.out))) : w.heap.size ≤ gb230)); have n3_ := Aside0.mk ((by rw [hg]; exact (below_size (by repeat (first | (with_reducible first | exact HB.out | apply below_alloc | apply pw_below_drewN | apply below_drew1) | exact HB.out))) : w.heap.size ≤ gb230)); clear HB; have HB := n0_; have BK230 := n1_; have GW230 := n2_; have GE230 := n3_; clear n0_ n1_ n2_ n3_; clear hb hbox hg))
  (try simp only [Act.put, List.setIfInBounds_toArray, List.set_cons_zero, List.set_cons_succ])
  go_cut [1] (fun v1 wc => ∃ (kq : Nat) (x1_2 : ByteArray), v1 = .string x1_2 ∧ Aside0 (gangwaylaw05_ArpBack.j0 kq x1_2 a0_0 a0_1 a0_2 a0_3 a0_4 = some r) ∧ Aside0 (kq ≤ k) ∧ Aside0 (wc.heap[gb230]? = some (.cells #[.int .i64 a0_0, .int .u64 a0_1, .int .u32 a0_2, .int .u64 a0_3, .int .u32 a0_4] 25 (0, 0))) ∧ Aside0 (Below w.heap.size w wc))
  case first =>
    have H := HC3.out
    clear HC3
    obtain ⟨ji5, hji5⟩ : ∃ j_ : Int, (mn (a1.size : Int) 100) = j_ := ⟨_, rfl⟩
    replace H : (if 0 ≤ (ji5) then (if (ji5) ≤ (a1.size : Int) then (gangwaylaw05_ArpBack.j0 k (a1.extract 0 ((ji5) : Int).toNat) a0_0 a0_1 a0_2 a0_3 a0_4) else (none)) else (none)) = some r := by first | (rw [hji5] at H; exact H) | (simp only [hji5] at H ⊢; exact H)
    (try (have hji5h : ji5 ≤ 100 := by (rw [← hji5]; unfold mn; (repeat' split) <;> omega)))
    (try (have hji5g : ji5 ≤ 64 := by omega))
    (try (have hji5l : 0 ≤ ji5 := by (rw [← hji5]; unfold mn; (repeat' split) <;> omega)))
    (try (have hji5m : 0 ≤ ji5 := by omega))
    have hji5_ : (if 100 < (a1.size : Int) then 100 else (a1.size : Int)) = ji5 := hji5
    by_cases c6 : 0 ≤ (ji5)
    · rw [if_pos c6] at H
      have c6b0 := eq_true c6
      have c6b1 : decide (0 ≤ (ji5)) = true := decide_eq_true c6
      clear c6
      by_cases c7 : (ji5) ≤ (a1.size : Int)
      · rw [if_pos c7] at H
        have c7b0 := eq_true c7
        have c7b1 : decide ((ji5) ≤ (a1.size : Int)) = true := decide_eq_true c7
        clear c7
        have H' := Aside0.mk H
        clear H
        go_wp2
        go_meet
        case rel => exact ⟨_, (a1.extract 0 ((ji5) : Int).toNat), (by first | rfl | (simp; done) | (simp only [← hji5] <;> (first | rfl | simp)) | (simp [*]; done)), H', ⟨by first | omega | exact Nat.le_refl _⟩, ⟨by (with_reducible repeat (first | refine blk_drewN ?_ _ | refine blk_drew ?_ | refine blk_alloc ?_ _)); exact BK230.out⟩, ⟨by repeat (first | (with_reducible first | exact HB.out | apply below_alloc | apply pw_below_drewN | apply below_drew1 | refine below_set ?_ GE230.out) | exact HB.out)⟩⟩
      · rw [if_neg c7] at H
        exact absurd H (by simp)
    · rw [if_neg c6] at H
      exact absurd H (by simp)
  case rest =>
    clear HC3
    try clear p2
    try clear c4
    try clear c6
    try clear c6b0
    try clear c6b1
    try clear c7
    try clear c7b0
    try clear c7b1
    obtain ⟨kq, x1_2, rfl, HA, HJ2, BK230, HB⟩ := hcut
    cases kq with
    | zero => exact absurd HA.out (by simp [gangwaylaw05_ArpBack.j0])
    | succ kj2 =>
      have H := HA.out
      clear HA
      simp only [gangwaylaw05_ArpBack.j0] at H
      replace H := Option.bind_eq_some_iff.mp H
      obtain ⟨⟨t231, t232⟩, A80, H⟩ := H
      replace H : (if t232 = 0 then (if t231.size + x1_2.size ≤ 9223372036854775807 then ((arp_Parse.f kj2 (t231 ++ x1_2)).bind fun bt233 => (if bt233.2.2.2.2.2 = 0 then (if (!(bt233.1 == a0_0) || (!(bt233.2.1 == a0_1) || (!(bt233.2.2.1 == a0_2) || (!(bt233.2.2.2.1 == a0_3) || (!(bt233.2.2.2.2.1 == a0_4)))))) = true then (none) else (if (t231.size : Int) = 28 then (gangwaylaw05_ArpBack.j1 kj2 x1_2) else (none))) else (none))) else (none)) else (gangwaylaw05_ArpBack.j1 kj2 x1_2)) = some r := H
      have A8 := Aside0.mk A80
      clear A80
      have HC9 := Aside0.mk H
      clear H
      have hcz10_0 : wc.cell? ⟨gb230, 0, none⟩ = some (.int .i64 a0_0) := (blk_cell BK230.out 0).trans rfl
      have hcz10_1 : wc.cell? ⟨gb230, 1, none⟩ = some (.int .u64 a0_1) := (blk_cell BK230.out 1).trans rfl
      have hcz10_2 : wc.cell? ⟨gb230, 2, none⟩ = some (.int .u32 a0_2) := (blk_cell BK230.out 2).trans rfl
      have hcz10_3 : wc.cell? ⟨gb230, 3, none⟩ = some (.int .u64 a0_3) := (blk_cell BK230.out 3).trans rfl
      have hcz10_4 : wc.cell? ⟨gb230, 4, none⟩ = some (.int .u32 a0_4) := (blk_cell BK230.out 4).trans rfl
      have hfz10_0 := blk_frozen BK230.out 0
      have hfz10_1 := blk_frozen BK230.out 1
      have hfz10_2 := blk_frozen BK230.out 2
      have hfz10_3 := blk_frozen BK230.out 3
      have hfz10_4 := blk_frozen BK230.out 4
      go_upto_if 24 with (first | ((with_reducible refine gate_callee (f := 7) rfl ?_); refine goesL_ (some 20) rfl rfl Tryd.func7 (by kernel_rfl) rfl #[.agg #[.int .i64 a0_0, .int .u64 a0_1, .int .u32 a0_2, .int .u64 a0_3, .int .u32 a0_4]] rfl (by (try simp only [List.map_toArray, List.map_cons, List.map_nil]); first | done | rfl | (simp only [List.length_drop, List.length_take]; rfl)) ?_; (with_reducible refine (arp_Build.calls kj2 a0_0 a0_1 a0_2 a0_3 a0_4 t231 t232 _ A8.out).mono ?_); rintro e w11 ⟨rfl, hb⟩; refine ⟨_, rfl, ?_⟩; have n0_ := Aside0.mk (blk_below (g := gb230) (o := .cells #[.int .i64 a0_0, .int .u64 a0_1, .int .u32 a0_2, .int .u64 a0_3, .int .u32 a0_4] 25 (0, 0)) (by (with_reducible repeat (first | refine blk_drewN ?_ _ | refine blk_drew ?_ | refine blk_alloc ?_ _)); exact BK230.out) hb); have n1_ := Aside0.mk (below_step (by repeat (first | (with_reducible first | exact HB.out | apply below_alloc | apply pw_below_drewN | apply below_drew1 | refine below_set ?_ GE230.out) | exact HB.out)) hb); clear BK230; clear HB; have BK230 := n0_; have HB := n1_; clear n0_ n1_; (try clear hb); (try clear hb2); (try clear hk); (try clear hi)))
      (try simp only [Act.put, List.setIfInBounds_toArray, List.set_cons_zero, List.set_cons_succ])
      go_cut [] (fun wc => ∃ (kq : Nat), Aside0 (gangwaylaw05_ArpBack.j1 kq x1_2 = some r) ∧ Aside0 (kq ≤ kj2) ∧ Aside0 (wc.heap[gb230]? = some (.cells #[.int .i64 a0_0, .int .u64 a0_1, .int .u32 a0_2, .int .u64 a0_3, .int .u32 a0_4] 25 (0, 0))) ∧ Aside0 (Below w.heap.size w wc))
      case first =>
        have H := HC9.out
        clear HC9
        by_cases c12 : t232 = 0
        · rw [if_pos c12] at H
          have c12b0 : (t232 == 0) = true := beq_iff_eq.mpr c12
          have c12b1 : (t232 != 0) = false := bne_eq_false_iff_eq.mpr c12
          clear c12
          (first | rw [c12b0] | (simp only [i64_w, i32_w]; rw [c12b0]) | skip)
          by_cases c13 : t231.size + x1_2.size ≤ 9223372036854775807
          · rw [if_pos c13] at H
            have c13b0 := eq_true c13
            have c13b1 : decide (t231.size + x1_2.size ≤ 9223372036854775807) = true := decide_eq_true c13
            try have c13b2 : (9223372036854775807 < t231.size + x1_2.size) = False := eq_false (Nat.not_lt.2 c13)
            replace H := Option.bind_eq_some_iff.mp H
            obtain ⟨⟨t233, t234, t235, t236, t237, t238⟩, A140, H⟩ := H
            replace H : (if t238 = 0 then (if (!(t233 == a0_0) || (!(t234 == a0_1) || (!(t235 == a0_2) || (!(t236 == a0_3) || (!(t237 == a0_4)))))) = true then (none) else (if (t231.size : Int) = 28 then (gangwaylaw05_ArpBack.j1 kj2 x1_2) else (none))) else (none)) = some r := H
            have A14 := Aside0.mk A140
            clear A140
            by_cases c15 : t238 = 0
            · rw [if_pos c15] at H
              have c15b0 : (t238 == 0) = true := beq_iff_eq.mpr c15
              have c15b1 : (t238 != 0) = false := bne_eq_false_iff_eq.mpr c15
              clear c15
              by_cases c16 : (!(t233 == a0_0) || (!(t234 == a0_1) || (!(t235 == a0_2) || (!(t236 == a0_3) || (!(t237 == a0_4)))))) = true
              · rw [if_pos c16] at H
                exact absurd H (by simp)
              · rw [if_neg c16] at H
                have c16b0 : (!(t233 == a0_0) || (!(t234 == a0_1) || (!(t235 == a0_2) || (!(t236 == a0_3) || (!(t237 == a0_4)))))) = false := by simpa using c16
                clear c16
                by_cases c17 : (t231.size : Int) = 28
                · rw [if_pos c17] at H
                  have c17b0 : ((t231.size : Int) == 28) = true := beq_iff_eq.mpr c17
                  have c17b1 : ((t231.size : Int) != 28) = false := bne_eq_false_iff_eq.mpr c17
                  clear c17
                  have H' := Aside0.mk H
                  clear H
                  go_wp2_with (first | ((with_reducible refine gate_callee (f := 9) rfl ?_); refine goesL_ (some 29) rfl rfl Tryd.func9 (by kernel_rfl) rfl #[.string (t231 ++ x1_2)] rfl (by (try simp only [List.map_toArray, List.map_cons, List.map_nil]); first | done | rfl | (simp only [List.length_drop, List.length_take]; rfl)) ?_; (with_reducible refine (arp_Parse.calls kj2 (t231 ++ x1_2) t233 t234 t235 t236 t237 t238 _ A14.out).mono ?_); rintro e w18 ⟨rfl, hb⟩; refine ⟨_, rfl, ?_⟩; have n0_ := Aside0.mk (blk_below (g := gb230) (o := .cells #[.int .i64 a0_0, .int .u64 a0_1, .int .u32 a0_2, .int .u64 a0_3, .int .u32 a0_4] 25 (0, 0)) (by (with_reducible repeat (first | refine blk_drewN ?_ _ | refine blk_drew ?_ | refine blk_alloc ?_ _)); exact BK230.out) hb); have n1_ := Aside0.mk (below_step (by repeat (first | (with_reducible first | exact HB.out | apply below_alloc | apply pw_below_drewN | apply below_drew1 | refine below_set ?_ GE230.out) | exact HB.out)) hb); clear BK230; clear HB; have BK230 := n0_; have HB := n1_; clear n0_ n1_; have hcy1_230_0 := (show World.cell? _ ⟨gb230, 0, none⟩ = some (.int .i64 a0_0) from (blk_cell BK230.out 0).trans rfl); have hcy1_230_1 := (show World.cell? _ ⟨gb230, 1, none⟩ = some (.int .u64 a0_1) from (blk_cell BK230.out 1).trans rfl); have hcy1_230_2 := (show World.cell? _ ⟨gb230, 2, none⟩ = some (.int .u32 a0_2) from (blk_cell BK230.out 2).trans rfl); have hcy1_230_3 := (show World.cell? _ ⟨gb230, 3, none⟩ = some (.int .u64 a0_3) from (blk_cell BK230.out 3).trans rfl); have hcy1_230_4 := (show World.cell? _ ⟨gb230, 4, none⟩ = some (.int .u32 a0_4) from (blk_cell BK230.out 4).trans rfl); (try clear hb); (try clear hb2); (try clear hk); (try clear hi)) | ((with_reducible refine gate_dst (N := 7) rfl ?_); (try (refine gate_guard (by rfl) ?_; dsimp only)); refine box_event ?hg (N := 7) ?hd (cs := #[.int .i64 0, .int .u64 0, .int .u32 0, .int .u64 0, .int .u32 0]) (t := 25) ?hr ?_; (case hd => rfl); (case hg => rfl); (case hr => first | (go_simp; done) | (go_simp; rfl)); intro gb239 hg w19 hbox hb; have n0_ := Aside0.mk (blk_below (g := gb230) (o := .cells #[.int .i64 a0_0, .int .u64 a0_1, .int .u32 a0_2, .int .u64 a0_3, .int .u32 a0_4] 25 (0, 0)) (by (with_reducible repeat (first | refine blk_drewN ?_ _ | refine blk_drew ?_ | refine blk_alloc ?_ _)); exact BK230.out) hb); have n1_ := Aside0.mk (below_step (by repeat (first | (with_reducible first | exact HB.out | apply below_alloc | apply pw_below_drewN | apply below_drew1 | refine below_set ?_ GE230.out) | exact HB.out)) hb); have n2_ := Aside0.mk (hbox); have n3_ := Aside0.mk ((by rw [hg]; exact (below_size (by repeat (first | (with_reducible first | exact HB.out | apply below_alloc | apply pw_below_drewN | apply below_drew1 | refine below_set ?_ GE230.out) | exact HB.out))) : w.heap.size ≤ gb239)); have n4_ := Aside0.mk ((by rw [hg]; exact (below_size (by repeat (first | (with_reducible first | exact HB.out | apply below_alloc | apply pw_below_drewN | apply below_drew1 | refine below_set ?_ GE230.out) | exact HB.out))) : w.heap.size ≤ gb239)); have n5_ := Aside0.mk ((by rw [hg]; exact Nat.ne_of_lt (blk_lt (g := gb230) (o := .cells #[.int .i64 a0_0, .int .u64 a0_1, .int .u32 a0_2, .int .u64 a0_3, .int .u32 a0_4] 25 (0, 0)) (by (with_reducible repeat (first | refine blk_drewN ?_ _ | refine blk_drew ?_ | refine blk_alloc ?_ _)); exact BK230.out)) : gb230 ≠ gb239)); have n6_ := Aside0.mk ((by rw [hg]; exact Nat.ne_of_gt (blk_lt (g := gb230) (o := .cells #[.int .i64 a0_0, .int .u64 a0_1, .int .u32 a0_2, .int .u64 a0_3, .int .u32 a0_4] 25 (0, 0)) (by (with_reducible repeat (first | refine blk_drewN ?_ _ | refine blk_drew ?_ | refine blk_alloc ?_ _)); exact BK230.out)) : gb239 ≠ gb230)); clear BK230; clear HB; have BK230 := n0_; have HB := n1_; have BK239 := n2_; have GW239 := n3_; have GE239 := n4_; have NB230_239 := n5_; have NB239_230 := n6_; clear n0_ n1_ n2_ n3_ n4_ n5_ n6_; have hcy2_230_0 := (show World.cell? _ ⟨gb230, 0, none⟩ = some (.int .i64 a0_0) from (blk_cell BK230.out 0).trans rfl); have hcy2_230_1 := (show World.cell? _ ⟨gb230, 1, none⟩ = some (.int .u64 a0_1) from (blk_cell BK230.out 1).trans rfl); have hcy2_230_2 := (show World.cell? _ ⟨gb230, 2, none⟩ = some (.int .u32 a0_2) from (blk_cell BK230.out 2).trans rfl); have hcy2_230_3 := (show World.cell? _ ⟨gb230, 3, none⟩ = some (.int .u64 a0_3) from (blk_cell BK230.out 3).trans rfl); have hcy2_230_4 := (show World.cell? _ ⟨gb230, 4, none⟩ = some (.int .u32 a0_4) from (blk_cell BK230.out 4).trans rfl); clear hb hbox hg; have hnb20 := NB239_230.out; have hnc20 := NB230_239.out; have hcz21_0 : w19.cell? ⟨gb239, 0, none⟩ = some (.int .i64 0) := (blk_cell BK239.out 0).trans rfl; have hcz21_1 : w19.cell? ⟨gb239, 1, none⟩ = some (.int .u64 0) := (blk_cell BK239.out 1).trans rfl; have hcz21_2 : w19.cell? ⟨gb239, 2, none⟩ = some (.int .u32 0) := (blk_cell BK239.out 2).trans rfl; have hcz21_3 : w19.cell? ⟨gb239, 3, none⟩ = some (.int .u64 0) := (blk_cell BK239.out 3).trans rfl; have hcz21_4 : w19.cell? ⟨gb239, 4, none⟩ = some (.int .u32 0) := (blk_cell BK239.out 4).trans rfl; have hfz21_0 := blk_frozen BK239.out 0; have hfz21_1 := blk_frozen BK239.out 1; have hfz21_2 := blk_frozen BK239.out 2; have hfz21_3 := blk_frozen BK239.out 3; have hfz21_4 := blk_frozen BK239.out 4; have hcz22_0 : w19.cell? ⟨gb230, 0, none⟩ = some (.int .i64 a0_0) := (blk_cell BK230.out 0).trans rfl; have hcz22_1 : w19.cell? ⟨gb230, 1, none⟩ = some (.int .u64 a0_1) := (blk_cell BK230.out 1).trans rfl; have hcz22_2 : w19.cell? ⟨gb230, 2, none⟩ = some (.int .u32 a0_2) := (blk_cell BK230.out 2).trans rfl; have hcz22_3 : w19.cell? ⟨gb230, 3, none⟩ = some (.int .u64 a0_3) := (blk_cell BK230.out 3).trans rfl; have hcz22_4 : w19.cell? ⟨gb230, 4, none⟩ = some (.int .u32 a0_4) := (blk_cell BK230.out 4).trans rfl; have hfz22_0 := blk_frozen BK230.out 0; have hfz22_1 := blk_frozen BK230.out 1; have hfz22_2 := blk_frozen BK230.out 2; have hfz22_3 := blk_frozen BK230.out 3; have hfz22_4 := blk_frozen BK230.out 4))
                  go_meet
                  case rel => exact ⟨_, H', ⟨by have := HJ2.out; first | omega | exact Nat.le_refl _⟩, ⟨by (with_reducible repeat (first | refine blk_drewN ?_ _ | refine blk_drew ?_ | refine blk_alloc ?_ _)); refine blk_far ?_ NB230_239.out _; (with_reducible repeat (first | refine blk_drewN ?_ _ | refine blk_drew ?_ | refine blk_alloc ?_ _)); refine blk_far ?_ NB230_239.out _; (with_reducible repeat (first | refine blk_drewN ?_ _ | refine blk_drew ?_ | refine blk_alloc ?_ _)); refine blk_far ?_ NB230_239.out _; (with_reducible repeat (first | refine blk_drewN ?_ _ | refine blk_drew ?_ | refine blk_alloc ?_ _)); refine blk_far ?_ NB230_239.out _; (with_reducible repeat (first | refine blk_drewN ?_ _ | refine blk_drew ?_ | refine blk_alloc ?_ _)); refine blk_far ?_ NB230_239.out _; (with_reducible repeat (first | refine blk_drewN ?_ _ | refine blk_drew ?_ | refine blk_alloc ?_ _)); exact BK230.out⟩, ⟨by repeat (first | (with_reducible first | exact HB.out | apply below_alloc | apply pw_below_drewN | apply below_drew1 | refine below_set ?_ GE230.out | refine below_set ?_ GE239.out) | exact HB.out)⟩⟩
                · rw [if_neg c17] at H
                  exact absurd H (by simp)
            · rw [if_neg c15] at H
              exact absurd H (by simp)
          · rw [if_neg c13] at H
            exact absurd H (by simp)
        · rw [if_neg c12] at H
          have c12b0 : (t232 == 0) = false := beq_eq_false_iff_ne.mpr c12
          have c12b1 : (t232 != 0) = true := bne_iff_ne.mpr c12
          (first | rw [c12b0] | (simp only [i64_w, i32_w]; rw [c12b0]) | skip)
          have H' := Aside0.mk H
          clear H
          go_wp2
          go_meet
          case rel => exact ⟨_, H', ⟨by have := HJ2.out; first | omega | exact Nat.le_refl _⟩, ⟨by (with_reducible repeat (first | refine blk_drewN ?_ _ | refine blk_drew ?_ | refine blk_alloc ?_ _)); exact BK230.out⟩, ⟨by repeat (first | (with_reducible first | exact HB.out | apply below_alloc | apply pw_below_drewN | apply below_drew1 | refine below_set ?_ GE230.out) | exact HB.out)⟩⟩
      case rest =>
        clear HC9
        try clear c1
        try clear c2
        try clear p2
        try clear c4
        try clear c6
        try clear c6b0
        try clear c6b1
        try clear c7
        try clear c7b0
        try clear c7b1
        try clear c9
        try clear c12
        try clear c12b0
        try clear c12b1
        try clear c13
        try clear c13b0
        try clear c13b1
        try clear c13b2
        try clear c15
        try clear c15b0
        try clear c15b1
        try clear c16
        try clear c16b0
        try clear c17
        try clear c17b0
        try clear c17b1
        try clear c20
        try clear hcz10_0
        try clear hcz10_1
        try clear hcz10_2
        try clear hcz10_3
        try clear hcz10_4
        try clear hcz21_0
        try clear hcz21_1
        try clear hcz21_2
        try clear hcz21_3
        try clear hcz21_4
        try clear hcz22_0
        try clear hcz22_1
        try clear hcz22_2
        try clear hcz22_3
        try clear hcz22_4
        try clear hfz10_0
        try clear hfz10_1
        try clear hfz10_2
        try clear hfz10_3
        try clear hfz10_4
        try clear hfz21_0
        try clear hfz21_1
        try clear hfz21_2
        try clear hfz21_3
        try clear hfz21_4
        try clear hfz22_0
        try clear hfz22_1
        try clear hfz22_2
        try clear hfz22_3
        try clear hfz22_4
        try clear p2
        obtain ⟨kq, HA, HJ8, BK230, HB⟩ := hcut
        cases kq with
        | zero => exact absurd HA.out (by simp [gangwaylaw05_ArpBack.j1])
        | succ kj8 =>
          have H := HA.out
          clear HA
          simp only [gangwaylaw05_ArpBack.j1] at H
          replace H := Option.bind_eq_some_iff.mp H
          obtain ⟨⟨t240, t241, t242, t243, t244, t245⟩, A230, H⟩ := H
          replace H : (if t245 = 0 then ((arp_Build.f kj8 t240 t241 t242 t243 t244).bind fun bt247 => (if bt247.2 = 0 then (if (x1_2.size : Int) ≥ 28 then (if 0 ≤ 28 then (if 28 ≤ (x1_2.size : Int) then (if bt247.1.toList = (x1_2.extract 0 28).toList then ((gangwaylaw05_fixed.f kj8).bind fun t249 => (gangwaylaw05_ArpBack.j2 kj8 t249)) else (gangwaylaw05_ArpBack.j2 kj8 false)) else (none)) else (none)) else (gangwaylaw05_ArpBack.j2 kj8 false)) else (gangwaylaw05_ArpBack.j2 kj8 false))) else (if (t240 == 0 && (t241 == 0 && (t242 == 0 && (t243 == 0 && (t244 == 0))))) = true then ((gangwaylaw05_fixed.f kj8).bind fun t250 => (some t250)) else (none))) = some r := H
          have A23 := Aside0.mk A230
          clear A230
          by_cases c24 : t245 = 0
          · rw [if_pos c24] at H
            have c24b0 : (t245 == 0) = true := beq_iff_eq.mpr c24
            have c24b1 : (t245 != 0) = false := bne_eq_false_iff_eq.mpr c24
            clear c24
            replace H := Option.bind_eq_some_iff.mp H
            obtain ⟨⟨t247, t248⟩, A250, H⟩ := H
            replace H : (if t248 = 0 then (if (x1_2.size : Int) ≥ 28 then (if 0 ≤ 28 then (if 28 ≤ (x1_2.size : Int) then (if t247.toList = (x1_2.extract 0 28).toList then ((gangwaylaw05_fixed.f kj8).bind fun t249 => (gangwaylaw05_ArpBack.j2 kj8 t249)) else (gangwaylaw05_ArpBack.j2 kj8 false)) else (none)) else (none)) else (gangwaylaw05_ArpBack.j2 kj8 false)) else (gangwaylaw05_ArpBack.j2 kj8 false)) = some r := H
            have A25 := Aside0.mk A250
            clear A250
            have HC26 := Aside0.mk H
            clear H
            go_upto_region 11 with (first | ((with_reducible refine gate_callee (f := 9) rfl ?_); refine goesL_ (some 46) rfl rfl Tryd.func9 (by kernel_rfl) rfl #[.string x1_2] rfl (by (try simp only [List.map_toArray, List.map_cons, List.map_nil]); first | done | rfl | (simp only [List.length_drop, List.length_take]; rfl)) ?_; (with_reducible refine (arp_Parse.calls kj8 x1_2 t240 t241 t242 t243 t244 t245 _ A23.out).mono ?_); rintro e w27 ⟨rfl, hb⟩; refine ⟨_, rfl, ?_⟩; have n0_ := Aside0.mk (blk_below (g := gb230) (o := .cells #[.int .i64 a0_0, .int .u64 a0_1, .int .u32 a0_2, .int .u64 a0_3, .int .u32 a0_4] 25 (0, 0)) (by (with_reducible repeat (first | refine blk_drewN ?_ _ | refine blk_drew ?_ | refine blk_alloc ?_ _)); exact BK230.out) hb); have n1_ := Aside0.mk (below_step (by repeat (first | (with_reducible first | exact HB.out | apply below_alloc | apply pw_below_drewN | apply below_drew1 | refine below_set ?_ GE230.out) | exact HB.out)) hb); clear BK230; clear HB; have BK230 := n0_; have HB := n1_; clear n0_ n1_; (try clear hb); (try clear hb2); (try clear hk); (try clear hi)) | ((with_reducible refine gate_dst (N := 9) rfl ?_); (try (refine gate_guard (by rfl) ?_; dsimp only)); refine box_event ?hg (N := 9) ?hd (cs := #[.int .i64 0, .int .u64 0, .int .u32 0, .int .u64 0, .int .u32 0]) (t := 25) ?hr ?_; (case hd => rfl); (case hg => rfl); (case hr => first | (go_simp; done) | (go_simp; rfl)); intro gb246 hg w28 hbox hb; have n0_ := Aside0.mk (blk_below (g := gb230) (o := .cells #[.int .i64 a0_0, .int .u64 a0_1, .int .u32 a0_2, .int .u64 a0_3, .int .u32 a0_4] 25 (0, 0)) (by (with_reducible repeat (first | refine blk_drewN ?_ _ | refine blk_drew ?_ | refine blk_alloc ?_ _)); exact BK230.out) hb); have n1_ := Aside0.mk (below_step (by repeat (first | (with_reducible first | exact HB.out | apply below_alloc | apply pw_below_drewN | apply below_drew1 | refine below_set ?_ GE230.out) | exact HB.out)) hb); have n2_ := Aside0.mk (hbox); have n3_ := Aside0.mk ((by rw [hg]; exact (below_size (by repeat (first | (with_reducible first | exact HB.out | apply below_alloc | apply pw_below_drewN | apply below_drew1 | refine below_set ?_ GE230.out) | exact HB.out))) : w.heap.size ≤ gb246)); have n4_ := Aside0.mk ((by rw [hg]; exact (below_size (by repeat (first | (with_reducible first | exact HB.out | apply below_alloc | apply pw_below_drewN | apply below_drew1 | refine below_set ?_ GE230.out) | exact HB.out))) : w.heap.size ≤ gb246)); have n5_ := Aside0.mk ((by rw [hg]; exact Nat.ne_of_lt (blk_lt (g := gb230) (o := .cells #[.int .i64 a0_0, .int .u64 a0_1, .int .u32 a0_2, .int .u64 a0_3, .int .u32 a0_4] 25 (0, 0)) (by (with_reducible repeat (first | refine blk_drewN ?_ _ | refine blk_drew ?_ | refine blk_alloc ?_ _)); exact BK230.out)) : gb230 ≠ gb246)); have n6_ := Aside0.mk ((by rw [hg]; exact Nat.ne_of_gt (blk_lt (g := gb230) (o := .cells #[.int .i64 a0_0, .int .u64 a0_1, .int .u32 a0_2, .int .u64 a0_3, .int .u32 a0_4] 25 (0, 0)) (by (with_reducible repeat (first | refine blk_drewN ?_ _ | refine blk_drew ?_ | refine blk_alloc ?_ _)); exact BK230.out)) : gb246 ≠ gb230)); clear BK230; clear HB; have BK230 := n0_; have HB := n1_; have BK246 := n2_; have GW246 := n3_; have GE246 := n4_; have NB230_246 := n5_; have NB246_230 := n6_; clear n0_ n1_ n2_ n3_ n4_ n5_ n6_; clear hb hbox hg; have hnb29 := NB246_230.out; have hnc29 := NB230_246.out; have hcz30_0 : w28.cell? ⟨gb246, 0, none⟩ = some (.int .i64 0) := (blk_cell BK246.out 0).trans rfl; have hcz30_1 : w28.cell? ⟨gb246, 1, none⟩ = some (.int .u64 0) := (blk_cell BK246.out 1).trans rfl; have hcz30_2 : w28.cell? ⟨gb246, 2, none⟩ = some (.int .u32 0) := (blk_cell BK246.out 2).trans rfl; have hcz30_3 : w28.cell? ⟨gb246, 3, none⟩ = some (.int .u64 0) := (blk_cell BK246.out 3).trans rfl; have hcz30_4 : w28.cell? ⟨gb246, 4, none⟩ = some (.int .u32 0) := (blk_cell BK246.out 4).trans rfl; have hfz30_0 := blk_frozen BK246.out 0; have hfz30_1 := blk_frozen BK246.out 1; have hfz30_2 := blk_frozen BK246.out 2; have hfz30_3 := blk_frozen BK246.out 3; have hfz30_4 := blk_frozen BK246.out 4) | ((with_reducible refine gate_callee (f := 7) rfl ?_); refine goesL_ (some 59) rfl rfl Tryd.func7 (by kernel_rfl) rfl #[.agg #[.int .i64 t240, .int .u64 t241, .int .u32 t242, .int .u64 t243, .int .u32 t244]] rfl (by (try simp only [List.map_toArray, List.map_cons, List.map_nil]); first | done | rfl | (simp only [List.length_drop, List.length_take]; rfl)) ?_; (with_reducible refine (arp_Build.calls kj8 t240 t241 t242 t243 t244 t247 t248 _ A25.out).mono ?_); rintro e w31 ⟨rfl, hb⟩; refine ⟨_, rfl, ?_⟩; have n0_ := Aside0.mk (blk_below (g := gb230) (o := .cells #[.int .i64 a0_0, .int .u64 a0_1, .int .u32 a0_2, .int .u64 a0_3, .int .u32 a0_4] 25 (0, 0)) (by (with_reducible repeat (first | refine blk_drewN ?_ _ | refine blk_drew ?_ | refine blk_alloc ?_ _)); refine blk_far ?_ NB230_246.out _; (with_reducible repeat (first | refine blk_drewN ?_ _ | refine blk_drew ?_ | refine blk_alloc ?_ _)); refine blk_far ?_ NB230_246.out _; (with_reducible repeat (first | refine blk_drewN ?_ _ | refine blk_drew ?_ | refine blk_alloc ?_ _)); refine blk_far ?_ NB230_246.out _; (with_reducible repeat (first | refine blk_drewN ?_ _ | refine blk_drew ?_ | refine blk_alloc ?_ _)); refine blk_far ?_ NB230_246.out _; (with_reducible repeat (first | refine blk_drewN ?_ _ | refine blk_drew ?_ | refine blk_alloc ?_ _)); refine blk_far ?_ NB230_246.out _; (with_reducible repeat (first | refine blk_drewN ?_ _ | refine blk_drew ?_ | refine blk_alloc ?_ _)); exact BK230.out) hb); have n1_ := Aside0.mk (blk_below (g := gb246) (o := .cells #[.int .i64 t240, .int .u64 t241, .int .u32 t242, .int .u64 t243, .int .u32 t244] 25 (0, 0)) (by (with_reducible repeat (first | refine blk_drewN ?_ _ | refine blk_drew ?_ | refine blk_alloc ?_ _)); refine blk_put (cs := #[.int .i64 t240, .int .u64 t241, .int .u32 t242, .int .u64 t243, .int .u32 0]) ?_ 4 _ rfl; (with_reducible repeat (first | refine blk_drewN ?_ _ | refine blk_drew ?_ | refine blk_alloc ?_ _)); refine blk_put (cs := #[.int .i64 t240, .int .u64 t241, .int .u32 t242, .int .u64 0, .int .u32 0]) ?_ 3 _ rfl; (with_reducible repeat (first | refine blk_drewN ?_ _ | refine blk_drew ?_ | refine blk_alloc ?_ _)); refine blk_put (cs := #[.int .i64 t240, .int .u64 t241, .int .u32 0, .int .u64 0, .int .u32 0]) ?_ 2 _ rfl; (with_reducible repeat (first | refine blk_drewN ?_ _ | refine blk_drew ?_ | refine blk_alloc ?_ _)); refine blk_put (cs := #[.int .i64 t240, .int .u64 0, .int .u32 0, .int .u64 0, .int .u32 0]) ?_ 1 _ rfl; (with_reducible repeat (first | refine blk_drewN ?_ _ | refine blk_drew ?_ | refine blk_alloc ?_ _)); refine blk_put (cs := #[.int .i64 0, .int .u64 0, .int .u32 0, .int .u64 0, .int .u32 0]) ?_ 0 _ rfl; (with_reducible repeat (first | refine blk_drewN ?_ _ | refine blk_drew ?_ | refine blk_alloc ?_ _)); exact BK246.out) hb); have n2_ := Aside0.mk (below_step (by repeat (first | (with_reducible first | exact HB.out | apply below_alloc | apply pw_below_drewN | apply below_drew1 | refine below_set ?_ GE230.out | refine below_set ?_ GE246.out) | exact HB.out)) hb); clear BK230; clear BK246; clear HB; have BK230 := n0_; have BK246 := n1_; have HB := n2_; clear n0_ n1_ n2_; (try clear hb); (try clear hb2); (try clear hk); (try clear hi)))
            (try simp only [Act.put, List.setIfInBounds_toArray, List.set_cons_zero, List.set_cons_succ])
            go_cut [4] (fun v4 wc => ∃ (kq : Nat) (x4_25 : Bool), v4 = .bool x4_25 ∧ Aside0 (gangwaylaw05_ArpBack.j2 kq x4_25 = some r) ∧ Aside0 (kq ≤ kj8) ∧ Aside0 (wc.heap[gb230]? = some (.cells #[.int .i64 a0_0, .int .u64 a0_1, .int .u32 a0_2, .int .u64 a0_3, .int .u32 a0_4] 25 (0, 0))) ∧ Aside0 (wc.heap[gb246]? = some (.cells #[.int .i64 t240, .int .u64 t241, .int .u32 t242, .int .u64 t243, .int .u32 t244] 25 (0, 0))) ∧ Aside0 (Below w.heap.size w wc))
            case first =>
              have H := HC26.out
              clear HC26
              by_cases c32 : t248 = 0
              · rw [if_pos c32] at H
                have c32b0 : (t248 == 0) = true := beq_iff_eq.mpr c32
                have c32b1 : (t248 != 0) = false := bne_eq_false_iff_eq.mpr c32
                clear c32
                (first | rw [c32b0] | (simp only [i64_w, i32_w]; rw [c32b0]) | skip)
                by_cases c33 : (x1_2.size : Int) ≥ 28
                · rw [if_pos c33] at H
                  have c33b0 : decide (28 ≤ (x1_2.size : Int)) = true := decide_eq_true c33
                  have c33b1 : decide (28 ≤ x1_2.size) = true := decide_eq_true (by omega)
                  clear c33
                  by_cases c34 : 0 ≤ 28
                  · rw [if_pos c34] at H
                    have c34b0 := eq_true c34
                    have c34b1 : decide (0 ≤ 28) = true := decide_eq_true c34
                    clear c34
                    by_cases c35 : 28 ≤ (x1_2.size : Int)
                    · rw [if_pos c35] at H
                      have c35b0 := eq_true c35
                      have c35b1 : decide (28 ≤ (x1_2.size : Int)) = true := decide_eq_true c35
                      clear c35
                      by_cases c36 : t247.toList = (x1_2.extract 0 28).toList
                      · rw [if_pos c36] at H
                        have c36b0 : (t247.toList == (x1_2.extract 0 28).toList) = true := beq_iff_eq.mpr c36
                        have c36b1 : (t247.toList != (x1_2.extract 0 28).toList) = false := bne_eq_false_iff_eq.mpr c36
                        clear c36
                        replace H := Option.bind_eq_some_iff.mp H
                        obtain ⟨t249, A370, H⟩ := H
                        replace H : (gangwaylaw05_ArpBack.j2 kj8 t249) = some r := H
                        have A37 := Aside0.mk A370
                        clear A370
                        have H' := Aside0.mk H
                        clear H
                        go_wp2_with (first | (go_at_call 11; (with_reducible refine (gangwaylaw05_fixed.calls kj8  t249 _ A37.out).mono ?_); rintro e w38 ⟨rfl, hb⟩; have n0_ := Aside0.mk (blk_below (g := gb230) (o := .cells #[.int .i64 a0_0, .int .u64 a0_1, .int .u32 a0_2, .int .u64 a0_3, .int .u32 a0_4] 25 (0, 0)) (by (with_reducible repeat (first | refine blk_drewN ?_ _ | refine blk_drew ?_ | refine blk_alloc ?_ _)); exact BK230.out) hb); have n1_ := Aside0.mk (blk_below (g := gb246) (o := .cells #[.int .i64 t240, .int .u64 t241, .int .u32 t242, .int .u64 t243, .int .u32 t244] 25 (0, 0)) (by (with_reducible repeat (first | refine blk_drewN ?_ _ | refine blk_drew ?_ | refine blk_alloc ?_ _)); exact BK246.out) hb); have n2_ := Aside0.mk (below_step (by repeat (first | (with_reducible first | exact HB.out | apply below_alloc | apply pw_below_drewN | apply below_drew1 | refine below_set ?_ GE230.out | refine below_set ?_ GE246.out) | exact HB.out)) hb); clear BK230; clear BK246; clear HB; have BK230 := n0_; have BK246 := n1_; have HB := n2_; clear n0_ n1_ n2_; have hcy1_230_0 := (show World.cell? _ ⟨gb230, 0, none⟩ = some (.int .i64 a0_0) from (blk_cell BK230.out 0).trans rfl); have hcy1_230_1 := (show World.cell? _ ⟨gb230, 1, none⟩ = some (.int .u64 a0_1) from (blk_cell BK230.out 1).trans rfl); have hcy1_230_2 := (show World.cell? _ ⟨gb230, 2, none⟩ = some (.int .u32 a0_2) from (blk_cell BK230.out 2).trans rfl); have hcy1_230_3 := (show World.cell? _ ⟨gb230, 3, none⟩ = some (.int .u64 a0_3) from (blk_cell BK230.out 3).trans rfl); have hcy1_230_4 := (show World.cell? _ ⟨gb230, 4, none⟩ = some (.int .u32 a0_4) from (blk_cell BK230.out 4).trans rfl); (try clear hb); (try clear hb2); (try clear hk); (try clear hi)))
                        go_meet
                        case rel => exact ⟨_, (t249), (by first | rfl | (simp; done) | (simp [*]; done)), H', ⟨by have := HJ2.out; have := HJ8.out; first | omega | exact Nat.le_refl _⟩, ⟨by (with_reducible repeat (first | refine blk_drewN ?_ _ | refine blk_drew ?_ | refine blk_alloc ?_ _)); exact BK230.out⟩, ⟨by (with_reducible repeat (first | refine blk_drewN ?_ _ | refine blk_drew ?_ | refine blk_alloc ?_ _)); exact BK246.out⟩, ⟨by repeat (first | (with_reducible first | exact HB.out | apply below_alloc | apply pw_below_drewN | apply below_drew1 | refine below_set ?_ GE230.out | refine below_set ?_ GE246.out) | exact HB.out)⟩⟩
                      · rw [if_neg c36] at H
                        have c36b0 : (t247.toList == (x1_2.extract 0 28).toList) = false := beq_eq_false_iff_ne.mpr c36
                        have c36b1 : (t247.toList != (x1_2.extract 0 28).toList) = true := bne_iff_ne.mpr c36
                        have H' := Aside0.mk H
                        clear H
                        go_wp2
                        go_meet
                        case rel => exact ⟨_, (false), (by first | rfl | (simp; done) | (simp [*]; done)), H', ⟨by have := HJ2.out; have := HJ8.out; first | omega | exact Nat.le_refl _⟩, ⟨by (with_reducible repeat (first | refine blk_drewN ?_ _ | refine blk_drew ?_ | refine blk_alloc ?_ _)); exact BK230.out⟩, ⟨by (with_reducible repeat (first | refine blk_drewN ?_ _ | refine blk_drew ?_ | refine blk_alloc ?_ _)); exact BK246.out⟩, ⟨by repeat (first | (with_reducible first | exact HB.out | apply below_alloc | apply pw_below_drewN | apply below_drew1 | refine below_set ?_ GE230.out | refine below_set ?_ GE246.out) | exact HB.out)⟩⟩
                    · rw [if_neg c35] at H
                      exact absurd H (by simp)
                  · rw [if_neg c34] at H
                    exact absurd H (by simp)
                · rw [if_neg c33] at H
                  have c33b0 : decide (28 ≤ (x1_2.size : Int)) = false := decide_eq_false c33
                  have c33b1 : decide (28 ≤ x1_2.size) = false := decide_eq_false (by omega)
                  clear c33
                  have H' := Aside0.mk H
                  clear H
                  go_wp2
                  go_meet
                  case rel => exact ⟨_, (false), (by first | rfl | (simp; done) | (simp [*]; done)), H', ⟨by have := HJ2.out; have := HJ8.out; first | omega | exact Nat.le_refl _⟩, ⟨by (with_reducible repeat (first | refine blk_drewN ?_ _ | refine blk_drew ?_ | refine blk_alloc ?_ _)); exact BK230.out⟩, ⟨by (with_reducible repeat (first | refine blk_drewN ?_ _ | refine blk_drew ?_ | refine blk_alloc ?_ _)); exact BK246.out⟩, ⟨by repeat (first | (with_reducible first | exact HB.out | apply below_alloc | apply pw_below_drewN | apply below_drew1 | refine below_set ?_ GE230.out | refine below_set ?_ GE246.out) | exact HB.out)⟩⟩
              · rw [if_neg c32] at H
                have c32b0 : (t248 == 0) = false := beq_eq_false_iff_ne.mpr c32
                have c32b1 : (t248 != 0) = true := bne_iff_ne.mpr c32
                (first | rw [c32b0] | (simp only [i64_w, i32_w]; rw [c32b0]) | skip)
                have H' := Aside0.mk H
                clear H
                go_wp2
                go_meet
                case rel => exact ⟨_, (false), (by first | rfl | (simp; done) | (simp [*]; done)), H', ⟨by have := HJ2.out; have := HJ8.out; first | omega | exact Nat.le_refl _⟩, ⟨by (with_reducible repeat (first | refine blk_drewN ?_ _ | refine blk_drew ?_ | refine blk_alloc ?_ _)); exact BK230.out⟩, ⟨by (with_reducible repeat (first | refine blk_drewN ?_ _ | refine blk_drew ?_ | refine blk_alloc ?_ _)); exact BK246.out⟩, ⟨by repeat (first | (with_reducible first | exact HB.out | apply below_alloc | apply pw_below_drewN | apply below_drew1 | refine below_set ?_ GE230.out | refine below_set ?_ GE246.out) | exact HB.out)⟩⟩
            case rest =>
              clear HC26
              try clear c1
              try clear c2
              try clear p2
              try clear c3
              try clear c4
              try clear c6
              try clear c6b0
              try clear c6b1
              try clear c7
              try clear c7b0
              try clear c7b1
              try clear c9
              try clear c12
              try clear c12b0
              try clear c12b1
              try clear c13
              try clear c13b0
              try clear c13b1
              try clear c13b2
              try clear c15
              try clear c15b0
              try clear c15b1
              try clear c16
              try clear c16b0
              try clear c17
              try clear c17b0
              try clear c17b1
              try clear c20
              try clear c24
              try clear c24b0
              try clear c24b1
              try clear c29
              try clear c32
              try clear c32b0
              try clear c32b1
              try clear c33
              try clear c33b0
              try clear c33b1
              try clear c34
              try clear c34b0
              try clear c34b1
              try clear c35
              try clear c35b0
              try clear c35b1
              try clear c36
              try clear c36b0
              try clear c36b1
              try clear hcz10_0
              try clear hcz10_1
              try clear hcz10_2
              try clear hcz10_3
              try clear hcz10_4
              try clear hcz21_0
              try clear hcz21_1
              try clear hcz21_2
              try clear hcz21_3
              try clear hcz21_4
              try clear hcz22_0
              try clear hcz22_1
              try clear hcz22_2
              try clear hcz22_3
              try clear hcz22_4
              try clear hcz30_0
              try clear hcz30_1
              try clear hcz30_2
              try clear hcz30_3
              try clear hcz30_4
              try clear hfz10_0
              try clear hfz10_1
              try clear hfz10_2
              try clear hfz10_3
              try clear hfz10_4
              try clear hfz21_0
              try clear hfz21_1
              try clear hfz21_2
              try clear hfz21_3
              try clear hfz21_4
              try clear hfz22_0
              try clear hfz22_1
              try clear hfz22_2
              try clear hfz22_3
              try clear hfz22_4
              try clear hfz30_0
              try clear hfz30_1
              try clear hfz30_2
              try clear hfz30_3
              try clear hfz30_4
              try clear p2
              obtain ⟨kq, x4_25, rfl, HA, HJ25, BK230, BK246, HB⟩ := hcut
              cases kq with
              | zero => exact absurd HA.out (by simp [gangwaylaw05_ArpBack.j2])
              | succ kj25 =>
                have H := HA.out
                clear HA
                simp only [gangwaylaw05_ArpBack.j2] at H
                obtain rfl := Option.some.inj H
                go_wp2
                go_ret
                exact ⟨by first | rfl | (simp [errW_none, errW_some] <;> rfl) | (simp [*, errW_none, errW_some] <;> rfl) | (simp [*, IntKind.wrap_u32]; done) | (simp_all [IntKind.wrap_u32]; done), by repeat (first | (with_reducible first | exact HB.out | apply below_alloc | apply pw_below_drewN | apply below_drew1 | refine below_set ?_ GE230.out | refine below_set ?_ GE246.out) | exact HB.out)⟩
          · rw [if_neg c24] at H
            have c24b0 : (t245 == 0) = false := beq_eq_false_iff_ne.mpr c24
            have c24b1 : (t245 != 0) = true := bne_iff_ne.mpr c24
            by_cases c39 : (t240 == 0 && (t241 == 0 && (t242 == 0 && (t243 == 0 && (t244 == 0))))) = true
            · rw [if_pos c39] at H
              have c39b0 : (t240 == 0 && (t241 == 0 && (t242 == 0 && (t243 == 0 && (t244 == 0))))) = true := c39
              (try (have c39b1 : decide (t240 = 0 && (t241 == 0 && (t242 == 0 && (t243 == 0 && (t244 == 0))))) = true := by simpa using c39))
              (try (have c39b2 : (t240 == 0 && (t241 == 0 && (t242 == 0 && (t243 == 0 && (t244 == 0))))) = true := by simpa using c39))
              clear c39
              replace H := Option.bind_eq_some_iff.mp H
              obtain ⟨t250, A400, H⟩ := H
              replace H : (some t250) = some r := H
              have A40 := Aside0.mk A400
              clear A400
              obtain rfl := Option.some.inj H
              go_wp2_with (first | ((with_reducible refine gate_callee (f := 9) rfl ?_); refine goesL_ (some 46) rfl rfl Tryd.func9 (by kernel_rfl) rfl #[.string x1_2] rfl (by (try simp only [List.map_toArray, List.map_cons, List.map_nil]); first | done | rfl | (simp only [List.length_drop, List.length_take]; rfl)) ?_; (with_reducible refine (arp_Parse.calls kj8 x1_2 t240 t241 t242 t243 t244 t245 _ A23.out).mono ?_); rintro e w41 ⟨rfl, hb⟩; refine ⟨_, rfl, ?_⟩; have n0_ := Aside0.mk (blk_below (g := gb230) (o := .cells #[.int .i64 a0_0, .int .u64 a0_1, .int .u32 a0_2, .int .u64 a0_3, .int .u32 a0_4] 25 (0, 0)) (by (with_reducible repeat (first | refine blk_drewN ?_ _ | refine blk_drew ?_ | refine blk_alloc ?_ _)); exact BK230.out) hb); have n1_ := Aside0.mk (below_step (by repeat (first | (with_reducible first | exact HB.out | apply below_alloc | apply pw_below_drewN | apply below_drew1 | refine below_set ?_ GE230.out) | exact HB.out)) hb); clear BK230; clear HB; have BK230 := n0_; have HB := n1_; clear n0_ n1_; have hcy1_230_0 := (show World.cell? _ ⟨gb230, 0, none⟩ = some (.int .i64 a0_0) from (blk_cell BK230.out 0).trans rfl); have hcy1_230_1 := (show World.cell? _ ⟨gb230, 1, none⟩ = some (.int .u64 a0_1) from (blk_cell BK230.out 1).trans rfl); have hcy1_230_2 := (show World.cell? _ ⟨gb230, 2, none⟩ = some (.int .u32 a0_2) from (blk_cell BK230.out 2).trans rfl); have hcy1_230_3 := (show World.cell? _ ⟨gb230, 3, none⟩ = some (.int .u64 a0_3) from (blk_cell BK230.out 3).trans rfl); have hcy1_230_4 := (show World.cell? _ ⟨gb230, 4, none⟩ = some (.int .u32 a0_4) from (blk_cell BK230.out 4).trans rfl); (try clear hb); (try clear hb2); (try clear hk); (try clear hi)) | ((with_reducible refine gate_dst (N := 9) rfl ?_); (try (refine gate_guard (by rfl) ?_; dsimp only)); refine box_event ?hg (N := 9) ?hd (cs := #[.int .i64 0, .int .u64 0, .int .u32 0, .int .u64 0, .int .u32 0]) (t := 25) ?hr ?_; (case hd => rfl); (case hg => rfl); (case hr => first | (go_simp; done) | (go_simp; rfl)); intro gb246 hg w42 hbox hb; have n0_ := Aside0.mk (blk_below (g := gb230) (o := .cells #[.int .i64 a0_0, .int .u64 a0_1, .int .u32 a0_2, .int .u64 a0_3, .int .u32 a0_4] 25 (0, 0)) (by (with_reducible repeat (first | refine blk_drewN ?_ _ | refine blk_drew ?_ | refine blk_alloc ?_ _)); exact BK230.out) hb); have n1_ := Aside0.mk (below_step (by repeat (first | (with_reducible first | exact HB.out | apply below_alloc | apply pw_below_drewN | apply below_drew1 | refine below_set ?_ GE230.out) | exact HB.out)) hb); have n2_ := Aside0.mk (hbox); have n3_ := Aside0.mk ((by rw [hg]; exact (below_size (by repeat (first | (with_reducible first | exact HB.out | apply below_alloc | apply pw_below_drewN | apply below_drew1 | refine below_set ?_ GE230.out) | exact HB.out))) : w.heap.size ≤ gb246)); have n4_ := Aside0.mk ((by rw [hg]; exact (below_size (by repeat (first | (with_reducible first | exact HB.out | apply below_alloc | apply pw_below_drewN | apply below_drew1 | refine below_set ?_ GE230.out) | exact HB.out))) : w.heap.size ≤ gb246)); have n5_ := Aside0.mk ((by rw [hg]; exact Nat.ne_of_lt (blk_lt (g := gb230) (o := .cells #[.int .i64 a0_0, .int .u64 a0_1, .int .u32 a0_2, .int .u64 a0_3, .int .u32 a0_4] 25 (0, 0)) (by (with_reducible repeat (first | refine blk_drewN ?_ _ | refine blk_drew ?_ | refine blk_alloc ?_ _)); exact BK230.out)) : gb230 ≠ gb246)); have n6_ := Aside0.mk ((by rw [hg]; exact Nat.ne_of_gt (blk_lt (g := gb230) (o := .cells #[.int .i64 a0_0, .int .u64 a0_1, .int .u32 a0_2, .int .u64 a0_3, .int .u32 a0_4] 25 (0, 0)) (by (with_reducible repeat (first | refine blk_drewN ?_ _ | refine blk_drew ?_ | refine blk_alloc ?_ _)); exact BK230.out)) : gb246 ≠ gb230)); clear BK230; clear HB; have BK230 := n0_; have HB := n1_; have BK246 := n2_; have GW246 := n3_; have GE246 := n4_; have NB230_246 := n5_; have NB246_230 := n6_; clear n0_ n1_ n2_ n3_ n4_ n5_ n6_; have hcy2_230_0 := (show World.cell? _ ⟨gb230, 0, none⟩ = some (.int .i64 a0_0) from (blk_cell BK230.out 0).trans rfl); have hcy2_230_1 := (show World.cell? _ ⟨gb230, 1, none⟩ = some (.int .u64 a0_1) from (blk_cell BK230.out 1).trans rfl); have hcy2_230_2 := (show World.cell? _ ⟨gb230, 2, none⟩ = some (.int .u32 a0_2) from (blk_cell BK230.out 2).trans rfl); have hcy2_230_3 := (show World.cell? _ ⟨gb230, 3, none⟩ = some (.int .u64 a0_3) from (blk_cell BK230.out 3).trans rfl); have hcy2_230_4 := (show World.cell? _ ⟨gb230, 4, none⟩ = some (.int .u32 a0_4) from (blk_cell BK230.out 4).trans rfl); clear hb hbox hg; have hnb43 := NB246_230.out; have hnc43 := NB230_246.out; have hcz44_0 : w42.cell? ⟨gb246, 0, none⟩ = some (.int .i64 0) := (blk_cell BK246.out 0).trans rfl; have hcz44_1 : w42.cell? ⟨gb246, 1, none⟩ = some (.int .u64 0) := (blk_cell BK246.out 1).trans rfl; have hcz44_2 : w42.cell? ⟨gb246, 2, none⟩ = some (.int .u32 0) := (blk_cell BK246.out 2).trans rfl; have hcz44_3 : w42.cell? ⟨gb246, 3, none⟩ = some (.int .u64 0) := (blk_cell BK246.out 3).trans rfl; have hcz44_4 : w42.cell? ⟨gb246, 4, none⟩ = some (.int .u32 0) := (blk_cell BK246.out 4).trans rfl; have hfz44_0 := blk_frozen BK246.out 0; have hfz44_1 := blk_frozen BK246.out 1; have hfz44_2 := blk_frozen BK246.out 2; have hfz44_3 := blk_frozen BK246.out 3; have hfz44_4 := blk_frozen BK246.out 4) | (obtain ⟨w42f, hgw_⟩ : ∃ y, y = (World.setCell (World.setCell (World.setCell (World.setCell w42 ⟨gb246, 0, none⟩ (.int .i64 t240)) ⟨gb246, 1, none⟩ (.int .u64 t241)) ⟨gb246, 2, none⟩ (.int .u32 t242)) ⟨gb246, 3, none⟩ (.int .u64 t243)) := ⟨_, rfl⟩; rw [← hgw_]; have m0_ := Aside0.mk (show w42f.heap[gb230]? = some (.cells #[.int .i64 a0_0, .int .u64 a0_1, .int .u32 a0_2, .int .u64 a0_3, .int .u32 a0_4] 25 (0, 0)) from (by rw [hgw_]; refine blk_far ?_ NB230_246.out _; (with_reducible repeat (first | refine blk_drewN ?_ _ | refine blk_drew ?_ | refine blk_alloc ?_ _)); refine blk_far ?_ NB230_246.out _; (with_reducible repeat (first | refine blk_drewN ?_ _ | refine blk_drew ?_ | refine blk_alloc ?_ _)); refine blk_far ?_ NB230_246.out _; (with_reducible repeat (first | refine blk_drewN ?_ _ | refine blk_drew ?_ | refine blk_alloc ?_ _)); refine blk_far ?_ NB230_246.out _; (with_reducible repeat (first | refine blk_drewN ?_ _ | refine blk_drew ?_ | refine blk_alloc ?_ _)); exact BK230.out)); have m1_ := Aside0.mk (show w42f.heap[gb246]? = some (.cells #[.int .i64 t240, .int .u64 t241, .int .u32 t242, .int .u64 t243, .int .u32 0] 25 (0, 0)) from (by rw [hgw_]; refine blk_put (cs := #[.int .i64 t240, .int .u64 t241, .int .u32 t242, .int .u64 0, .int .u32 0]) ?_ 3 _ rfl; (with_reducible repeat (first | refine blk_drewN ?_ _ | refine blk_drew ?_ | refine blk_alloc ?_ _)); refine blk_put (cs := #[.int .i64 t240, .int .u64 t241, .int .u32 0, .int .u64 0, .int .u32 0]) ?_ 2 _ rfl; (with_reducible repeat (first | refine blk_drewN ?_ _ | refine blk_drew ?_ | refine blk_alloc ?_ _)); refine blk_put (cs := #[.int .i64 t240, .int .u64 0, .int .u32 0, .int .u64 0, .int .u32 0]) ?_ 1 _ rfl; (with_reducible repeat (first | refine blk_drewN ?_ _ | refine blk_drew ?_ | refine blk_alloc ?_ _)); refine blk_put (cs := #[.int .i64 0, .int .u64 0, .int .u32 0, .int .u64 0, .int .u32 0]) ?_ 0 _ rfl; (with_reducible repeat (first | refine blk_drewN ?_ _ | refine blk_drew ?_ | refine blk_alloc ?_ _)); exact BK246.out)); have mb_ := Aside0.mk (show Below w.heap.size w w42f from (by rw [hgw_]; exact (by repeat (first | (with_reducible first | exact HB.out | apply below_alloc | apply pw_below_drewN | apply below_drew1 | refine below_set ?_ GE230.out | refine below_set ?_ GE246.out) | exact HB.out)))); clear BK230; have BK230 := m0_; clear m0_; clear BK246; have BK246 := m1_; clear m1_; clear HB; have HB := mb_; clear mb_; clear hgw_; have hcf230_0 : w42f.cell? ⟨gb230, 0, none⟩ = some (.int .i64 a0_0) := (blk_cell BK230.out 0).trans rfl; have hcf230_1 : w42f.cell? ⟨gb230, 1, none⟩ = some (.int .u64 a0_1) := (blk_cell BK230.out 1).trans rfl; have hcf230_2 : w42f.cell? ⟨gb230, 2, none⟩ = some (.int .u32 a0_2) := (blk_cell BK230.out 2).trans rfl; have hcf230_3 : w42f.cell? ⟨gb230, 3, none⟩ = some (.int .u64 a0_3) := (blk_cell BK230.out 3).trans rfl; have hcf230_4 : w42f.cell? ⟨gb230, 4, none⟩ = some (.int .u32 a0_4) := (blk_cell BK230.out 4).trans rfl; have hff230_0 := blk_frozen BK230.out 0; have hff230_1 := blk_frozen BK230.out 1; have hff230_2 := blk_frozen BK230.out 2; have hff230_3 := blk_frozen BK230.out 3; have hff230_4 := blk_frozen BK230.out 4; have hcf246_0 : w42f.cell? ⟨gb246, 0, none⟩ = some (.int .i64 t240) := (blk_cell BK246.out 0).trans rfl; have hcf246_1 : w42f.cell? ⟨gb246, 1, none⟩ = some (.int .u64 t241) := (blk_cell BK246.out 1).trans rfl; have hcf246_2 : w42f.cell? ⟨gb246, 2, none⟩ = some (.int .u32 t242) := (blk_cell BK246.out 2).trans rfl; have hcf246_3 : w42f.cell? ⟨gb246, 3, none⟩ = some (.int .u64 t243) := (blk_cell BK246.out 3).trans rfl; have hcf246_4 : w42f.cell? ⟨gb246, 4, none⟩ = some (.int .u32 0) := (blk_cell BK246.out 4).trans rfl; have hff246_0 := blk_frozen BK246.out 0; have hff246_1 := blk_frozen BK246.out 1; have hff246_2 := blk_frozen BK246.out 2; have hff246_3 := blk_frozen BK246.out 3; have hff246_4 := blk_frozen BK246.out 4) | (go_at_call 11; (with_reducible refine (gangwaylaw05_fixed.calls kj8  t250 _ A40.out).mono ?_); rintro e w45 ⟨rfl, hb⟩; have n0_ := Aside0.mk (blk_below (g := gb230) (o := .cells #[.int .i64 a0_0, .int .u64 a0_1, .int .u32 a0_2, .int .u64 a0_3, .int .u32 a0_4] 25 (0, 0)) (by (with_reducible repeat (first | refine blk_drewN ?_ _ | refine blk_drew ?_ | refine blk_alloc ?_ _)); refine blk_far ?_ NB230_246.out _; (with_reducible repeat (first | refine blk_drewN ?_ _ | refine blk_drew ?_ | refine blk_alloc ?_ _)); exact BK230.out) hb); have n1_ := Aside0.mk (blk_below (g := gb246) (o := .cells #[.int .i64 t240, .int .u64 t241, .int .u32 t242, .int .u64 t243, .int .u32 t244] 25 (0, 0)) (by (with_reducible repeat (first | refine blk_drewN ?_ _ | refine blk_drew ?_ | refine blk_alloc ?_ _)); refine blk_put (cs := #[.int .i64 t240, .int .u64 t241, .int .u32 t242, .int .u64 t243, .int .u32 0]) ?_ 4 _ rfl; (with_reducible repeat (first | refine blk_drewN ?_ _ | refine blk_drew ?_ | refine blk_alloc ?_ _)); exact BK246.out) hb); have n2_ := Aside0.mk (below_step (by repeat (first | (with_reducible first | exact HB.out | apply below_alloc | apply pw_below_drewN | apply below_drew1 | refine below_set ?_ GE230.out | refine below_set ?_ GE246.out) | exact HB.out)) hb); clear BK230; clear BK246; clear HB; have BK230 := n0_; have BK246 := n1_; have HB := n2_; clear n0_ n1_ n2_; have hcy3_230_0 := (show World.cell? _ ⟨gb230, 0, none⟩ = some (.int .i64 a0_0) from (blk_cell BK230.out 0).trans rfl); have hcy3_230_1 := (show World.cell? _ ⟨gb230, 1, none⟩ = some (.int .u64 a0_1) from (blk_cell BK230.out 1).trans rfl); have hcy3_230_2 := (show World.cell? _ ⟨gb230, 2, none⟩ = some (.int .u32 a0_2) from (blk_cell BK230.out 2).trans rfl); have hcy3_230_3 := (show World.cell? _ ⟨gb230, 3, none⟩ = some (.int .u64 a0_3) from (blk_cell BK230.out 3).trans rfl); have hcy3_230_4 := (show World.cell? _ ⟨gb230, 4, none⟩ = some (.int .u32 a0_4) from (blk_cell BK230.out 4).trans rfl); (try clear hb); (try clear hb2); (try clear hk); (try clear hi)))
              go_ret
              exact ⟨by first | rfl | (simp [errW_none, errW_some] <;> rfl) | (simp [*, errW_none, errW_some] <;> rfl) | (simp [*, IntKind.wrap_u32]; done) | (simp_all [IntKind.wrap_u32]; done), by repeat (first | (with_reducible first | exact HB.out | apply below_alloc | apply pw_below_drewN | apply below_drew1 | refine below_set ?_ GE230.out | refine below_set ?_ GE246.out) | exact HB.out)⟩
            · rw [if_neg c39] at H
              exact absurd H (by simp)

end Go.Proofs.YtjlikmonnnbnaaaDoor.P
