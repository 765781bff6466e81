-- squeezed
-- Written by wip/hprint.py (this session's program) through the kit's print program; hand contracts are marked 'by hand'.
import Derived.Test.YtbfjlhjfpmgplaaDoorRow
import Derived.Test.YtbfjlhjfpmgplaaDoorRowB
import Derived.Test.YtbfjlhjfpmgplaaDoorPx0
import Derived.Test.YtbfjlhjfpmgplaaDoorPx4
import Derived.Test.YtbfjlhjfpmgplaaDoorPx8
import Derived.Test.YtbfjlhjfpmgplaaDoorPx10
import Derived.Test.YtbfjlhjfpmgplaaDoorPx12
import Derived.Test.YtbfjlhjfpmgplaaDoorPx18
namespace Go.Proofs.YtbfjlhjfpmgplaaDoor.P
open Go.RowKit Go.Proofs.YtbfjlhjfpmgplaaDoorW.PrintWords Go.Proofs.YtbfjlhjfpmgplaaDoorW.PrintLast Go.Proofs.YtbfjlhjfpmgplaaDoorW.PrintMore
attribute [local go_sem] max2_int min2_int max_two min_two max_three min_three max_four min_four   -- for this text's walks alone
set_option linter.unusedVariables false
set_option linter.unusedSimpArgs false

/-! ### gangwaylaw09_BpduBuilds: function 3 -/
def gangwaylaw09_BpduBuilds.f (k : Nat) (a0_0 : Int) (a0_1 : Bool) (a0_2 : Bool) (a0_3 : Bool) (a0_4 : Bool) (a0_5 : Bool) (a0_6 : Bool) (a0_7 : Int) (a0_8 : Int) (a0_9 : Int) (a0_10 : Int) (a0_11 : Int) (a0_12 : Int) (a0_13 : Int) (a0_14 : Int) (a0_15 : Int) : Option (Bool) := (bpdu_Build.f k a0_0 a0_1 a0_2 a0_3 a0_4 a0_5 a0_6 a0_7 a0_8 a0_9 a0_10 a0_11 a0_12 a0_13 a0_14 a0_15).bind fun bt394 => ((gangwayref09_Build.f k a0_0 a0_1 a0_2 a0_3 a0_4 a0_5 a0_6 a0_7 a0_8 a0_9 a0_10 a0_11 a0_12 a0_13 a0_14 a0_15).bind fun bt396 => ((gangwaylaw09_fixed.f k).bind fun t398 => (if t398 = true then (if bt394.1.toList = bt396.1.toList then (if bt394.2 = bt396.2 then ((bpdu_Check.f k a0_0 a0_1 a0_2 a0_3 a0_4 a0_5 a0_6 a0_7 a0_8 a0_9 a0_10 a0_11 a0_12 a0_13 a0_14 a0_15).bind fun t399 => ((gangwayref09_Check.f k a0_0 a0_1 a0_2 a0_3 a0_4 a0_5 a0_6 a0_7 a0_8 a0_9 a0_10 a0_11 a0_12 a0_13 a0_14 a0_15).bind fun t400 => (some (t399 == t400)))) else (none)) else (none)) else (none))))
theorem gangwaylaw09_BpduBuilds.mono : ∀ a0 a1 a2 a3 a4 a5 a6 a7 a8 a9 a10 a11 a12 a13 a14 a15 k, LeO (gangwaylaw09_BpduBuilds.f k a0 a1 a2 a3 a4 a5 a6 a7 a8 a9 a10 a11 a12 a13 a14 a15) (gangwaylaw09_BpduBuilds.f (k + 1) a0 a1 a2 a3 a4 a5 a6 a7 a8 a9 a10 a11 a12 a13 a14 a15) := by
 intro a0 a1 a2 a3 a4 a5 a6 a7 a8 a9 a10 a11 a12 a13 a14 a15 k
 unfold gangwaylaw09_BpduBuilds.f
 repeat' first
   | (with_reducible exact bpdu_Build.mono _ _ _ _ _ _ _ _ _ _ _ _ _ _ _ _ _)
   | (with_reducible exact bpdu_Check.mono _ _ _ _ _ _ _ _ _ _ _ _ _ _ _ _ _)
   | (with_reducible exact gangwaylaw09_fixed.mono _)
   | (with_reducible exact gangwayref09_Build.mono _ _ _ _ _ _ _ _ _ _ _ _ _ _ _ _ _)
   | (with_reducible exact gangwayref09_Check.mono _ _ _ _ _ _ _ _ _ _ _ _ _ _ _ _ _)
   | (with_reducible exact LeO.refl _)
   | (with_reducible exact LeO.none _)
   | (with_reducible refine LeO.ite ?_ ?_)
   | (with_reducible refine LeO.bind ?_ (fun _ => ?_))
   | exact bpdu_Build.mono _ _ _ _ _ _ _ _ _ _ _ _ _ _ _ _ _
   | exact bpdu_Check.mono _ _ _ _ _ _ _ _ _ _ _ _ _ _ _ _ _
   | exact gangwaylaw09_fixed.mono _
   | exact gangwayref09_Build.mono _ _ _ _ _ _ _ _ _ _ _ _ _ _ _ _ _
   | exact gangwayref09_Check.mono _ _ _ _ _ _ _ _ _ _ _ _ _ _ _ _ _
   | exact LeO.none _
   | refine LeO.ite ?_ ?_
   | refine LeO.bind ?_ (fun _ => ?_)
def gangwaylaw09_BpduBuilds.T3 : Bool × List (List Nat × List Nat) := (true, [([], []), ([0, 0], [0]), ([1], [1]), ([1], [1]), ([2, 3, 1], [1, 2, 3]), ([1, 4], [1, 4]), ([5, 1], [5]), ([6], [6]), ([6], [6]), ([7, 8, 6], [6, 7, 8]), ([6, 9], [6, 9]), ([10, 6], [10]), ([11], [11]), ([12, 11, 11], [11, 12]), ([11], [11]), ([14, 13, 11], [11, 14]), ([13, 15, 11], [11, 13, 15]), ([11, 16], [11, 16]), ([17, 15, 0, 1, 2, 3, 4, 5, 6, 7, 8, 9, 10, 11, 12, 13, 14, 15, 16, 17], [17])])
def gangwaylaw09_BpduBuilds.B3 : List Nat := [0, 1, 3, 3, 15, 31, 63, 127, 127, 511, 1023, 2047, 4095, 8191, 4095, 32767, 65535, 131071, 262143]
theorem gangwaylaw09_BpduBuilds.tab3 : rtab .any (opsOf Tryd.f3 3) = gangwaylaw09_BpduBuilds.T3 := by kernel_rfl
theorem gangwaylaw09_BpduBuilds.bits3 : waitsOk gangwaylaw09_BpduBuilds.T3.2 gangwaylaw09_BpduBuilds.B3 = true := by kernel_rfl
set_option maxHeartbeats 8000000 in
set_option maxRecDepth 100000 in
theorem gangwaylaw09_BpduBuilds.calls (k : Nat) (a0_0 : Int) (a0_1 : Bool) (a0_2 : Bool) (a0_3 : Bool) (a0_4 : Bool) (a0_5 : Bool) (a0_6 : Bool) (a0_7 : Int) (a0_8 : Int) (a0_9 : Int) (a0_10 : Int) (a0_11 : Int) (a0_12 : Int) (a0_13 : Int) (a0_14 : Int) (a0_15 : Int) (r : Bool) (w : World) (h : gangwaylaw09_BpduBuilds.f k a0_0 a0_1 a0_2 a0_3 a0_4 a0_5 a0_6 a0_7 a0_8 a0_9 a0_10 a0_11 a0_12 a0_13 a0_14 a0_15 = some r) :
  Calls Tryd.prog 3 #[.agg #[.int .i64 a0_0, .bool a0_1, .bool a0_2, .bool a0_3, .bool a0_4, .bool a0_5, .bool a0_6, .int .i64 a0_7, .int .u64 a0_8, .int .i64 a0_9, .int .u64 a0_10, .int .i64 a0_11, .int .i64 a0_12, .int .i64 a0_13, .int .i64 a0_14, .int .i64 a0_15]] w fun e w' => e = .returned (.bool r) ∧ Below w.heap.size w w' := by
 have hu24 := Tryd.underlying24
 have HB := Aside0.mk (Below.refl w.heap.size w)
 have H : ((bpdu_Build.f k a0_0 a0_1 a0_2 a0_3 a0_4 a0_5 a0_6 a0_7 a0_8 a0_9 a0_10 a0_11 a0_12 a0_13 a0_14 a0_15).bind fun bt394 => ((gangwayref09_Build.f k a0_0 a0_1 a0_2 a0_3 a0_4 a0_5 a0_6 a0_7 a0_8 a0_9 a0_10 a0_11 a0_12 a0_13 a0_14 a0_15).bind fun bt396 => ((gangwaylaw09_fixed.f k).bind fun t398 => (if t398 = true then (if bt394.1.toList = bt396.1.toList then (if bt394.2 = bt396.2 then ((bpdu_Check.f k a0_0 a0_1 a0_2 a0_3 a0_4 a0_5 a0_6 a0_7 a0_8 a0_9 a0_10 a0_11 a0_12 a0_13 a0_14 a0_15).bind fun t399 => ((gangwayref09_Check.f k a0_0 a0_1 a0_2 a0_3 a0_4 a0_5 a0_6 a0_7 a0_8 a0_9 a0_10 a0_11 a0_12 a0_13 a0_14 a0_15).bind fun t400 => (some (t399 == t400)))) else (none)) else (none)) else (none))))) = some r := h
 clear h
 replace H := Option.bind_eq_some_iff.mp H
 obtain ⟨⟨t394, t395⟩, A20, H⟩ := H
 replace H : ((gangwayref09_Build.f k a0_0 a0_1 a0_2 a0_3 a0_4 a0_5 a0_6 a0_7 a0_8 a0_9 a0_10 a0_11 a0_12 a0_13 a0_14 a0_15).bind fun bt396 => ((gangwaylaw09_fixed.f k).bind fun t398 => (if t398 = true then (if t394.toList = bt396.1.toList then (if t395 = bt396.2 then ((bpdu_Check.f k a0_0 a0_1 a0_2 a0_3 a0_4 a0_5 a0_6 a0_7 a0_8 a0_9 a0_10 a0_11 a0_12 a0_13 a0_14 a0_15).bind fun t399 => ((gangwayref09_Check.f k a0_0 a0_1 a0_2 a0_3 a0_4 a0_5 a0_6 a0_7 a0_8 a0_9 a0_10 a0_11 a0_12 a0_13 a0_14 a0_15).bind fun t400 => (some (t399 == t400)))) else (none)) else (none)) else (none)))) = some r := H
 have A2 := Aside0.mk A20
 clear A20
 replace H := Option.bind_eq_some_iff.mp H
 obtain ⟨⟨t396, t397⟩, A30, H⟩ := H
 replace H : ((gangwaylaw09_fixed.f k).bind fun t398 => (if t398 = true then (if t394.toList = t396.toList then (if t395 = t397 then ((bpdu_Check.f k a0_0 a0_1 a0_2 a0_3 a0_4 a0_5 a0_6 a0_7 a0_8 a0_9 a0_10 a0_11 a0_12 a0_13 a0_14 a0_15).bind fun t399 => ((gangwayref09_Check.f k a0_0 a0_1 a0_2 a0_3 a0_4 a0_5 a0_6 a0_7 a0_8 a0_9 a0_10 a0_11 a0_12 a0_13 a0_14 a0_15).bind fun t400 => (some (t399 == t400)))) else (none)) else (none)) else (none))) = some r := H
 have A3 := Aside0.mk A30
 clear A30
 replace H := Option.bind_eq_some_iff.mp H
 obtain ⟨t398, A40, H⟩ := H
 replace H : (if t398 = true then (if t394.toList = t396.toList then (if t395 = t397 then ((bpdu_Check.f k a0_0 a0_1 a0_2 a0_3 a0_4 a0_5 a0_6 a0_7 a0_8 a0_9 a0_10 a0_11 a0_12 a0_13 a0_14 a0_15).bind fun t399 => ((gangwayref09_Check.f k a0_0 a0_1 a0_2 a0_3 a0_4 a0_5 a0_6 a0_7 a0_8 a0_9 a0_10 a0_11 a0_12 a0_13 a0_14 a0_15).bind fun t400 => (some (t399 == t400)))) else (none)) else (none)) else (none)) = some r := H
 have A4 := Aside0.mk A40
 clear A40
 by_cases c5 : t398 = true
 ·subst c5
  have H1 : (if t394.toList = t396.toList then (if t395 = t397 then ((bpdu_Check.f k a0_0 a0_1 a0_2 a0_3 a0_4 a0_5 a0_6 a0_7 a0_8 a0_9 a0_10 a0_11 a0_12 a0_13 a0_14 a0_15).bind fun t399 => ((gangwayref09_Check.f k a0_0 a0_1 a0_2 a0_3 a0_4 a0_5 a0_6 a0_7 a0_8 a0_9 a0_10 a0_11 a0_12 a0_13 a0_14 a0_15).bind fun t400 => (some (t399 == t400)))) else (none)) else (none)) = some r := by rw [if_pos rfl] at H; exact H
  clear H
  have H := H1
  clear H1
  by_cases c6 : t394.toList = t396.toList
  ·rw [if_pos c6] at H
   have c6b0 : (t394.toList == t396.toList) = true := beq_iff_eq.mpr c6
   have c6b1 : (t394.toList != t396.toList) = false := bne_eq_false_iff_eq.mpr c6
   clear c6
   by_cases c7 : t395 = t397
   ·rw [if_pos c7] at H
    have c7b0 : (t395 == t397) = true := beq_iff_eq.mpr c7
    have c7b1 : (t395 != t397) = false := bne_eq_false_iff_eq.mpr c7
    clear c7
    replace H := Option.bind_eq_some_iff.mp H
    obtain ⟨t399, A80, H⟩ := H
    replace H : ((gangwayref09_Check.f k a0_0 a0_1 a0_2 a0_3 a0_4 a0_5 a0_6 a0_7 a0_8 a0_9 a0_10 a0_11 a0_12 a0_13 a0_14 a0_15).bind fun t400 => (some (t399 == t400))) = some r := H
    have A8 := Aside0.mk A80
    clear A80
    replace H := Option.bind_eq_some_iff.mp H
    obtain ⟨t400, A90, H⟩ := H
    replace H : (some (t399 == t400)) = some r := H
    have A9 := Aside0.mk A90
    clear A90
    obtain rfl := Option.some.inj H
    go_enter Tryd.func3, Tryd.ntmps3
    try go_wp2_with (first | ((with_reducible refine gate_st (ty := 24) rfl ?_); (try (with_reducible refine gate_gd rfl ?_; refine gate_guard (by first | rfl | exact wanted_on rfl rfl rfl (by first | rfl | (simp [*]; done))) ?_; dsimp only)); refine storeC16 rfl rfl rfl rfl rfl (by repeat (first | (with_reducible apply blk_far; case hp => assumption) | (with_reducible apply blk_set) | (with_reducible refine blk_drewN ?_ _) | (with_reducible refine blk_drew ?_) | (with_reducible refine blk_alloc ?_ _) | (first | with_reducible exact BK393.out))) (by first | (simp only [List.setIfInBounds_toArray, List.set_cons_zero, List.set_cons_succ] <;> rfl) | rfl) (by kernel_rfl) rfl ?_) | ((with_reducible refine gate_ld (ty := 24) rfl ?_); (try (with_reducible refine gate_gd rfl ?_; refine gate_guard (by first | rfl | exact wanted_on rfl rfl rfl (by first | rfl | (simp [*]; done))) ?_; dsimp only)); refine load_st rfl rfl rfl (by repeat (first | (with_reducible apply blk_far; case hp => assumption) | (with_reducible apply blk_set) | (with_reducible refine blk_drewN ?_ _) | (with_reducible refine blk_drew ?_) | (with_reducible refine blk_alloc ?_ _) | (first | with_reducible exact BK393.out))) (by first | (simp only [List.setIfInBounds_toArray, List.set_cons_zero, List.set_cons_succ] <;> rfl) | rfl) Tryd.underlying24 rfl (by kernel_rfl) ?_; (try simp only [Act.put, List.setIfInBounds_toArray, List.set_cons_zero, List.set_cons_succ])) | ((with_reducible refine gate_dst (N := 1) rfl ?_); refine box_event ?hg (N := 1) ?hd (cs := #[.int .i64 a0_0, .bool a0_1, .bool a0_2, .bool a0_3, .bool a0_4, .bool a0_5, .bool a0_6, .int .i64 a0_7, .int .u64 a0_8, .int .i64 a0_9, .int .u64 a0_10, .int .i64 a0_11, .int .i64 a0_12, .int .i64 a0_13, .int .i64 a0_14, .int .i64 a0_15]) (t := 24) ?hr ?_; (case hd => rfl); (case hg => rfl); (case hr => first | (go_simp; done) | (go_simp; rfl)); intro gb393 hg w10 hbox hb; have n0_ := Aside0.mk (below_step (by repeat (first | (with_reducible first | exact HB.out | apply below_alloc | apply pw_below_drewN | apply below_drew1) | exact HB.out)) hb); have n1_ := Aside0.mk (hbox); have n2_ := Aside0.mk ((by rw [hg]; exact (below_size (by repeat (first | (with_reducible first | exact HB.out | apply below_alloc | apply pw_below_drewN | apply below_drew1) | exact HB.out))) : w.heap.size ≤ gb393)); have n3_ := Aside0.mk ((by rw [hg]; exact (below_size (by repeat (first | (with_reducible first | exact HB.out | apply below_alloc | apply pw_below_drewN | apply below_drew1) | exact HB.out))) : w.heap.size ≤ gb393)); clear HB; have HB := n0_; have BK393 := n1_; have GW393 := n2_; have GE393 := n3_; clear n0_ n1_ n2_ n3_; clear hb hbox hg; obtain ⟨hcz11_0, hcz11_1, hcz11_2, hcz11_3, hcz11_4, hcz11_5, hcz11_6, hcz11_7, hcz11_8, hcz11_9, hcz11_10, hcz11_11, hcz11_12, hcz11_13, hcz11_14, hcz11_15⟩ := cells16 BK393.out; obtain ⟨hfz11_0, hfz11_1, hfz11_2, hfz11_3, hfz11_4, hfz11_5, hfz11_6, hfz11_7, hfz11_8, hfz11_9, hfz11_10, hfz11_11, hfz11_12, hfz11_13, hfz11_14, hfz11_15⟩ := frozen16 BK393.out) | ((with_reducible refine gate_callee (f := 8) rfl ?_); refine goesL_ (some 9) rfl rfl Tryd.func8 (by kernel_rfl) rfl #[.agg #[.int .i64 a0_0, .bool a0_1, .bool a0_2, .bool a0_3, .bool a0_4, .bool a0_5, .bool a0_6, .int .i64 a0_7, .int .u64 a0_8, .int .i64 a0_9, .int .u64 a0_10, .int .i64 a0_11, .int .i64 a0_12, .int .i64 a0_13, .int .i64 a0_14, .int .i64 a0_15]] rfl (by (try simp only [List.map_toArray, List.map_cons, List.map_nil]); first | done | rfl | (simp only [List.length_drop, List.length_take]; rfl)) ?_; (with_reducible refine (bpdu_Build.calls k a0_0 a0_1 a0_2 a0_3 a0_4 a0_5 a0_6 a0_7 a0_8 a0_9 a0_10 a0_11 a0_12 a0_13 a0_14 a0_15 t394 t395 _ A2.out).mono ?_); rintro e w12 ⟨rfl, hb⟩; refine ⟨_, rfl, ?_⟩; have n0_ := Aside0.mk (blk_below (g := gb393) (by (with_reducible repeat (first | refine blk_drewN ?_ _ | refine blk_drew ?_ | refine blk_alloc ?_ _)); exact BK393.out) hb); have n1_ := Aside0.mk (below_step (by repeat (first | (with_reducible first | exact HB.out | apply below_alloc | apply pw_below_drewN | apply below_drew1 | refine below_set ?_ GE393.out) | exact HB.out)) hb); clear BK393; clear HB; have BK393 := n0_; have HB := n1_; clear n0_ n1_; (try clear hb); (try clear hb2); (try clear hk); (try clear hi); obtain ⟨hcz13_0, hcz13_1, hcz13_2, hcz13_3, hcz13_4, hcz13_5, hcz13_6, hcz13_7, hcz13_8, hcz13_9, hcz13_10, hcz13_11, hcz13_12, hcz13_13, hcz13_14, hcz13_15⟩ := cells16 BK393.out; obtain ⟨hfz13_0, hfz13_1, hfz13_2, hfz13_3, hfz13_4, hfz13_5, hfz13_6, hfz13_7, hfz13_8, hfz13_9, hfz13_10, hfz13_11, hfz13_12, hfz13_13, hfz13_14, hfz13_15⟩ := frozen16 BK393.out) | ((with_reducible refine gate_callee (f := 9) rfl ?_); refine goesL_ (some 14) rfl rfl Tryd.func9 (by kernel_rfl) rfl #[.agg #[.int .i64 a0_0, .bool a0_1, .bool a0_2, .bool a0_3, .bool a0_4, .bool a0_5, .bool a0_6, .int .i64 a0_7, .int .u64 a0_8, .int .i64 a0_9, .int .u64 a0_10, .int .i64 a0_11, .int .i64 a0_12, .int .i64 a0_13, .int .i64 a0_14, .int .i64 a0_15]] rfl (by (try simp only [List.map_toArray, List.map_cons, List.map_nil]); first | done | rfl | (simp only [List.length_drop, List.length_take]; rfl)) ?_; (with_reducible refine (gangwayref09_Build.calls k a0_0 a0_1 a0_2 a0_3 a0_4 a0_5 a0_6 a0_7 a0_8 a0_9 a0_10 a0_11 a0_12 a0_13 a0_14 a0_15 t396 t397 _ A3.out).mono ?_); rintro e w14 ⟨rfl, hb⟩; refine ⟨_, rfl, ?_⟩; have n0_ := Aside0.mk (blk_below (g := gb393) (by (with_reducible repeat (first | refine blk_drewN ?_ _ | refine blk_drew ?_ | refine blk_alloc ?_ _)); exact BK393.out) hb); have n1_ := Aside0.mk (below_step (by repeat (first | (with_reducible first | exact HB.out | apply below_alloc | apply pw_below_drewN | apply below_drew1 | refine below_set ?_ GE393.out) | exact HB.out)) hb); clear BK393; clear HB; have BK393 := n0_; have HB := n1_; clear n0_ n1_; obtain ⟨hcy2_393_0, hcy2_393_1, hcy2_393_2, hcy2_393_3, hcy2_393_4, hcy2_393_5, hcy2_393_6, hcy2_393_7, hcy2_393_8, hcy2_393_9, hcy2_393_10, hcy2_393_11, hcy2_393_12, hcy2_393_13, hcy2_393_14, hcy2_393_15⟩ := cells16 BK393.out; (try clear hb); (try clear hb2); (try clear hk); (try clear hi)))
    have n0_ := Aside0.mk (blk_drew BK393.out)
    have n1_ := Aside0.mk (below_drew1 HB.out)
    clear BK393
    clear HB
    have BK393 := n0_
    have HB := n1_
    clear n0_ n1_
    refine start_ (n := 19) (S := fun w' => w'.cell? ⟨gb393, 0, none⟩ = some (.int .i64 a0_0) ∧ w'.cell? ⟨gb393, 1, none⟩ = some (.bool a0_1) ∧ w'.cell? ⟨gb393, 2, none⟩ = some (.bool a0_2) ∧ w'.cell? ⟨gb393, 3, none⟩ = some (.bool a0_3) ∧ w'.cell? ⟨gb393, 4, none⟩ = some (.bool a0_4) ∧ w'.cell? ⟨gb393, 5, none⟩ = some (.bool a0_5) ∧ w'.cell? ⟨gb393, 6, none⟩ = some (.bool a0_6) ∧ w'.cell? ⟨gb393, 7, none⟩ = some (.int .i64 a0_7) ∧ w'.cell? ⟨gb393, 8, none⟩ = some (.int .u64 a0_8) ∧ w'.cell? ⟨gb393, 9, none⟩ = some (.int .i64 a0_9) ∧ w'.cell? ⟨gb393, 10, none⟩ = some (.int .u64 a0_10) ∧ w'.cell? ⟨gb393, 11, none⟩ = some (.int .i64 a0_11) ∧ w'.cell? ⟨gb393, 12, none⟩ = some (.int .i64 a0_12) ∧ w'.cell? ⟨gb393, 13, none⟩ = some (.int .i64 a0_13) ∧ w'.cell? ⟨gb393, 14, none⟩ = some (.int .i64 a0_14) ∧ w'.cell? ⟨gb393, 15, none⟩ = some (.int .i64 a0_15)) (ds := []) #[false, false, false, false, false, false, false, false, false, false, false, false, false, false, false, false, false, false, false] (by kernel_rfl) rfl rfl ⟨(blk_cell BK393.out 0).trans rfl, (blk_cell BK393.out 1).trans rfl, (blk_cell BK393.out 2).trans rfl, (blk_cell BK393.out 3).trans rfl, (blk_cell BK393.out 4).trans rfl, (blk_cell BK393.out 5).trans rfl, (blk_cell BK393.out 6).trans rfl, (blk_cell BK393.out 7).trans rfl, (blk_cell BK393.out 8).trans rfl, (blk_cell BK393.out 9).trans rfl, (blk_cell BK393.out 10).trans rfl, (blk_cell BK393.out 11).trans rfl, (blk_cell BK393.out 12).trans rfl, (blk_cell BK393.out 13).trans rfl, (blk_cell BK393.out 14).trans rfl, (blk_cell BK393.out 15).trans rfl⟩ (fun hHeld => ?_); refine with_tabW gangwaylaw09_BpduBuilds.tab3 gangwaylaw09_BpduBuilds.bits3 (fun HT_ HW_ => ?_)
    generalize w14.drew = w15 at BK393 HB hHeld ⊢
    refine one_ (i := 0) (N := some 17) #[true, false, false, false, false, false, false, false, false, false, false, false, false, false, false, false, false, false, false] rfl rfl (one_of HT_.out (by kernel_rfl)) (by decide) (fun K hK => ?_)
    refine goes_ Tryd.func10 (by kernel_rfl) rfl #[] (by first | rfl | exact wanted_on rfl rfl rfl (by first | rfl | (simp [*]; done) | (simp [*, IntKind.wrap_u32]; done))) rfl rfl (by (try simp only [List.map_toArray, List.map_cons, List.map_nil]); first | done | rfl | (simp only [List.length_drop, List.length_take]; rfl)) ?_
    with_reducible refine (gangwaylaw09_fixed.calls k  true _ A4.out).mono ?_
    rintro e w16 ⟨rfl, hb⟩
    refine ⟨_, rfl, ?_⟩
    have n0_ := Aside0.mk (blk_below (g := gb393) (o := .cells #[.int .i64 a0_0, .bool a0_1, .bool a0_2, .bool a0_3, .bool a0_4, .bool a0_5, .bool a0_6, .int .i64 a0_7, .int .u64 a0_8, .int .i64 a0_9, .int .u64 a0_10, .int .i64 a0_11, .int .i64 a0_12, .int .i64 a0_13, .int .i64 a0_14, .int .i64 a0_15] 24 (0, 0)) (by (with_reducible repeat (first | refine blk_drewN ?_ _ | refine blk_drew ?_ | refine blk_alloc ?_ _)); exact BK393.out) hb)
    have n1_ := Aside0.mk (below_step (by repeat (first | (with_reducible first | exact HB.out | apply below_alloc | apply pw_below_drewN | apply below_drew1 | refine below_set ?_ GE393.out) | exact HB.out)) hb)
    clear BK393
    clear HB
    have BK393 := n0_
    have HB := n1_
    clear n0_ n1_
    (try clear hb)
    (try clear hb2)
    (try clear hk)
    (try clear hi)
    refine hK.out _ _ ⟨(blk_cell BK393.out 0).trans rfl, (blk_cell BK393.out 1).trans rfl, (blk_cell BK393.out 2).trans rfl, (blk_cell BK393.out 3).trans rfl, (blk_cell BK393.out 4).trans rfl, (blk_cell BK393.out 5).trans rfl, (blk_cell BK393.out 6).trans rfl, (blk_cell BK393.out 7).trans rfl, (blk_cell BK393.out 8).trans rfl, (blk_cell BK393.out 9).trans rfl, (blk_cell BK393.out 10).trans rfl, (blk_cell BK393.out 11).trans rfl, (blk_cell BK393.out 12).trans rfl, (blk_cell BK393.out 13).trans rfl, (blk_cell BK393.out 14).trans rfl, (blk_cell BK393.out 15).trans rfl⟩ (fun hHeld => ?_)
    clear hK K
    refine norm_ (a' := ?_) ?_ ?_
    rotate_left
    ·show Act.put _ (some 17) _ = _
     simp only [Act.put, List.setIfInBounds_toArray, List.set_cons_zero, List.set_cons_succ, i64_w, i32_w]
     rfl
    refine pure_ (i := 1) (N := some 18) (v := ?_) (a' := ?_) #[true, true, false, false, false, false, false, false, false, false, false, false, false, false, false, false, false, false, false] rfl rfl (any_of HT_.out (by kernel_rfl)) (fun _ _ _ h => h) (Or.inl ⟨by rfl, ?_⟩) ?_ ?_
    rotate_left
    ·intro w'
     go_simp
     first | with_reducible rfl | (rw [if_neg (by (try simp only [decide_eq_true_eq, ByteArray.size_append, ByteArray.size_extract, eq_iff_iff, iff_true, iff_false, Nat.not_lt] at *); omega)]; try with_reducible rfl)
    rotate_left
    ·simp only [Act.put, List.setIfInBounds_toArray, List.set_cons_zero, List.set_cons_succ, i64_w, i32_w]
     rfl
    refine pure_ (i := 2) (N := some 19) (v := ?_) (a' := ?_) #[true, true, true, false, false, false, false, false, false, false, false, false, false, false, false, false, false, false, false] rfl rfl (any_of HT_.out (by kernel_rfl)) (fun _ _ _ h => h) (Or.inl ⟨by rfl, ?_⟩) ?_ ?_
    rotate_left
    ·intro w'
     go_simp
     first | with_reducible rfl | (rw [if_neg (by (try simp only [decide_eq_true_eq, ByteArray.size_append, ByteArray.size_extract, eq_iff_iff, iff_true, iff_false, Nat.not_lt] at *); omega)]; try with_reducible rfl)
    rotate_left
    ·simp only [Act.put, List.setIfInBounds_toArray, List.set_cons_zero, List.set_cons_succ, i64_w, i32_w]
     rfl
    refine pure_ (i := 3) (N := some 20) (v := ?_) (a' := ?_) #[true, true, true, true, false, false, false, false, false, false, false, false, false, false, false, false, false, false, false] rfl rfl (any_of HT_.out (by kernel_rfl)) (fun _ _ _ h => h) (Or.inl ⟨by rfl, ?_⟩) ?_ ?_
    rotate_left
    ·intro w'
     go_simp
     first | with_reducible rfl | (rw [if_neg (by (try simp only [decide_eq_true_eq, ByteArray.size_append, ByteArray.size_extract, eq_iff_iff, iff_true, iff_false, Nat.not_lt] at *); omega)]; try with_reducible rfl)
    rotate_left
    ·simp only [Act.put, List.setIfInBounds_toArray, List.set_cons_zero, List.set_cons_succ, i64_w, i32_w]
     rfl
    refine pure_ (i := 4) (N := some 21) (v := ?_) (a' := ?_) #[true, true, true, true, true, false, false, false, false, false, false, false, false, false, false, false, false, false, false] rfl rfl (any_of HT_.out (by kernel_rfl)) (fun _ _ _ h => h) (Or.inl ⟨by rfl, ?_⟩) ?_ ?_
    rotate_left
    ·intro w'
     go_simp
     first | with_reducible rfl | (rw [if_neg (by (try simp only [decide_eq_true_eq, ByteArray.size_append, ByteArray.size_extract, eq_iff_iff, iff_true, iff_false, Nat.not_lt] at *); omega)]; try with_reducible rfl)
    rotate_left
    ·simp only [Act.put, List.setIfInBounds_toArray, List.set_cons_zero, List.set_cons_succ, i64_w, i32_w]
     rfl
    refine pure_ (i := 5) (N := some 22) (v := ?_) (a' := ?_) #[true, true, true, true, true, true, false, false, false, false, false, false, false, false, false, false, false, false, false] rfl rfl (any_of HT_.out (by kernel_rfl)) (fun _ _ _ h => h) (Or.inl ⟨by rfl, ?_⟩) ?_ ?_
    rotate_left
    ·intro w'
     go_simp
     first | with_reducible rfl | (rw [if_neg (by (try simp only [decide_eq_true_eq, ByteArray.size_append, ByteArray.size_extract, eq_iff_iff, iff_true, iff_false, Nat.not_lt] at *); omega)]; try with_reducible rfl)
    rotate_left
    ·simp only [Act.put, List.setIfInBounds_toArray, List.set_cons_zero, List.set_cons_succ, i64_w, i32_w]
     rfl
    refine pure_ (i := 6) (N := some 23) (v := ?_) (a' := ?_) #[true, true, true, true, true, true, true, false, false, false, false, false, false, false, false, false, false, false, false] rfl rfl (any_of HT_.out (by kernel_rfl)) (fun _ _ _ h => h) (Or.inl ⟨by rfl, ?_⟩) ?_ ?_
    rotate_left
    ·intro w'
     go_simp
     first | with_reducible rfl | (rw [if_neg (by (try simp only [decide_eq_true_eq, ByteArray.size_append, ByteArray.size_extract, eq_iff_iff, iff_true, iff_false, Nat.not_lt] at *); omega)]; try with_reducible rfl)
    rotate_left
    ·simp only [Act.put, List.setIfInBounds_toArray, List.set_cons_zero, List.set_cons_succ, i64_w, i32_w]
     rfl
    refine pure_ (i := 7) (N := some 24) (v := ?_) (a' := ?_) #[true, true, true, true, true, true, true, true, false, false, false, false, false, false, false, false, false, false, false] rfl rfl (any_of HT_.out (by kernel_rfl)) (fun _ _ _ h => h) (Or.inl ⟨by rfl, ?_⟩) ?_ ?_
    rotate_left
    ·intro w'
     go_simp
     first | with_reducible rfl | (rw [if_neg (by (try simp only [decide_eq_true_eq, ByteArray.size_append, ByteArray.size_extract, eq_iff_iff, iff_true, iff_false, Nat.not_lt] at *); omega)]; try with_reducible rfl)
    rotate_left
    ·simp only [Act.put, List.setIfInBounds_toArray, List.set_cons_zero, List.set_cons_succ, i64_w, i32_w]
     rfl
    refine pure_ (i := 8) (N := some 25) (v := ?_) (a' := ?_) #[true, true, true, true, true, true, true, true, true, false, false, false, false, false, false, false, false, false, false] rfl rfl (any_of HT_.out (by kernel_rfl)) (fun _ _ _ h => h) (Or.inl ⟨by rfl, ?_⟩) ?_ ?_
    rotate_left
    ·intro w'
     go_simp
     first | with_reducible rfl | (rw [if_neg (by (try simp only [decide_eq_true_eq, ByteArray.size_append, ByteArray.size_extract, eq_iff_iff, iff_true, iff_false, Nat.not_lt] at *); omega)]; try with_reducible rfl)
    rotate_left
    ·simp only [Act.put, List.setIfInBounds_toArray, List.set_cons_zero, List.set_cons_succ, i64_w, i32_w]
     rfl
    refine pure_ (i := 9) (N := some 26) (v := ?_) (a' := ?_) #[true, true, true, true, true, true, true, true, true, true, false, false, false, false, false, false, false, false, false] rfl rfl (any_of HT_.out (by kernel_rfl)) (fun _ _ _ h => h) (Or.inl ⟨by rfl, ?_⟩) ?_ ?_
    rotate_left
    ·intro w'
     go_simp
     first | with_reducible rfl | (rw [if_neg (by (try simp only [decide_eq_true_eq, ByteArray.size_append, ByteArray.size_extract, eq_iff_iff, iff_true, iff_false, Nat.not_lt] at *); omega)]; try with_reducible rfl)
    rotate_left
    ·simp only [Act.put, List.setIfInBounds_toArray, List.set_cons_zero, List.set_cons_succ, i64_w, i32_w]
     rfl
    refine pure_ (i := 10) (N := some 27) (v := ?_) (a' := ?_) #[true, true, true, true, true, true, true, true, true, true, true, false, false, false, false, false, false, false, false] rfl rfl (any_of HT_.out (by kernel_rfl)) (fun _ _ _ h => h) (Or.inl ⟨by rfl, ?_⟩) ?_ ?_
    rotate_left
    ·intro w'
     go_simp
     first | with_reducible rfl | (rw [if_neg (by (try simp only [decide_eq_true_eq, ByteArray.size_append, ByteArray.size_extract, eq_iff_iff, iff_true, iff_false, Nat.not_lt] at *); omega)]; try with_reducible rfl)
    rotate_left
    ·simp only [Act.put, List.setIfInBounds_toArray, List.set_cons_zero, List.set_cons_succ, i64_w, i32_w]
     rfl
    refine pure_ (i := 11) (N := some 28) (v := ?_) (a' := ?_) #[true, true, true, true, true, true, true, true, true, true, true, true, false, false, false, false, false, false, false] rfl rfl (any_of HT_.out (by kernel_rfl)) (fun _ _ _ h => h) (Or.inl ⟨by rfl, ?_⟩) ?_ ?_
    rotate_left
    ·intro w'
     go_simp
     first | with_reducible rfl | (rw [if_neg (by (try simp only [decide_eq_true_eq, ByteArray.size_append, ByteArray.size_extract, eq_iff_iff, iff_true, iff_false, Nat.not_lt] at *); omega)]; try with_reducible rfl)
    rotate_left
    ·simp only [Act.put, List.setIfInBounds_toArray, List.set_cons_zero, List.set_cons_succ, i64_w, i32_w]
     rfl
    refine take_ (i := 12) (N := some 29) (v := ?_) (a' := ?_) #[true, true, true, true, true, true, true, true, true, true, true, true, true, false, false, false, false, false, false] rfl rfl (take_ofW HT_.out HW_.out (by kernel_rfl)) (fun _ _ _ h => h) (Or.inl ⟨by rfl, ?_⟩) hHeld ?_ ?_
    rotate_left
    ·rintro w' ⟨s0, s1, s2, s3, s4, s5, s6, s7, s8, s9, s10, s11, s12, s13, s14, s15⟩
     go_simp
     with_reducible rfl
    rotate_left
    ·simp only [Act.put, List.setIfInBounds_toArray, List.set_cons_zero, List.set_cons_succ, i64_w, i32_w]
     rfl
    refine take_ (i := 14) (N := some 31) (v := ?_) (a' := ?_) #[true, true, true, true, true, true, true, true, true, true, true, true, true, false, true, false, false, false, false] rfl rfl (take_ofW HT_.out HW_.out (by kernel_rfl)) (fun _ _ _ h => h) (Or.inl ⟨by rfl, ?_⟩) hHeld ?_ ?_
    rotate_left
    ·rintro w' ⟨s0, s1, s2, s3, s4, s5, s6, s7, s8, s9, s10, s11, s12, s13, s14, s15⟩
     go_simp
     with_reducible rfl
    rotate_left
    ·simp only [Act.put, List.setIfInBounds_toArray, List.set_cons_zero, List.set_cons_succ, i64_w, i32_w]
     rfl
    refine one_ (i := 13) (N := some 30) #[true, true, true, true, true, true, true, true, true, true, true, true, true, true, true, false, false, false, false] rfl rfl (one_of HT_.out (by kernel_rfl)) (by decide) (fun K hK => ?_)
    refine goes_ Tryd.func11 (by kernel_rfl) rfl #[.agg #[.int .i64 a0_0, .bool a0_1, .bool a0_2, .bool a0_3, .bool a0_4, .bool a0_5, .bool a0_6, .int .i64 a0_7, .int .u64 a0_8, .int .i64 a0_9, .int .u64 a0_10, .int .i64 a0_11, .int .i64 a0_12, .int .i64 a0_13, .int .i64 a0_14, .int .i64 a0_15]] (by first | rfl | exact wanted_on rfl rfl rfl (by first | rfl | (simp [*]; done) | (simp [*, IntKind.wrap_u32]; done))) rfl rfl (by (try simp only [List.map_toArray, List.map_cons, List.map_nil]); first | done | rfl | (simp only [List.length_drop, List.length_take]; rfl)) ?_
    with_reducible refine (bpdu_Check.calls k a0_0 a0_1 a0_2 a0_3 a0_4 a0_5 a0_6 a0_7 a0_8 a0_9 a0_10 a0_11 a0_12 a0_13 a0_14 a0_15 t399 _ A8.out).mono ?_
    rintro e w17 ⟨rfl, hb⟩
    refine ⟨_, rfl, ?_⟩
    have n0_ := Aside0.mk (blk_below (g := gb393) (o := .cells #[.int .i64 a0_0, .bool a0_1, .bool a0_2, .bool a0_3, .bool a0_4, .bool a0_5, .bool a0_6, .int .i64 a0_7, .int .u64 a0_8, .int .i64 a0_9, .int .u64 a0_10, .int .i64 a0_11, .int .i64 a0_12, .int .i64 a0_13, .int .i64 a0_14, .int .i64 a0_15] 24 (0, 0)) (by (with_reducible repeat (first | refine blk_drewN ?_ _ | refine blk_drew ?_ | refine blk_alloc ?_ _)); exact BK393.out) hb)
    have n1_ := Aside0.mk (below_step (by repeat (first | (with_reducible first | exact HB.out | apply below_alloc | apply pw_below_drewN | apply below_drew1 | refine below_set ?_ GE393.out) | exact HB.out)) hb)
    clear BK393
    clear HB
    have BK393 := n0_
    have HB := n1_
    clear n0_ n1_
    (try clear hb)
    (try clear hb2)
    (try clear hk)
    (try clear hi)
    refine hK.out _ _ ⟨(blk_cell BK393.out 0).trans rfl, (blk_cell BK393.out 1).trans rfl, (blk_cell BK393.out 2).trans rfl, (blk_cell BK393.out 3).trans rfl, (blk_cell BK393.out 4).trans rfl, (blk_cell BK393.out 5).trans rfl, (blk_cell BK393.out 6).trans rfl, (blk_cell BK393.out 7).trans rfl, (blk_cell BK393.out 8).trans rfl, (blk_cell BK393.out 9).trans rfl, (blk_cell BK393.out 10).trans rfl, (blk_cell BK393.out 11).trans rfl, (blk_cell BK393.out 12).trans rfl, (blk_cell BK393.out 13).trans rfl, (blk_cell BK393.out 14).trans rfl, (blk_cell BK393.out 15).trans rfl⟩ (fun hHeld => ?_)
    clear hK K
    refine norm_ (a' := ?_) ?_ ?_
    rotate_left
    ·show Act.put _ (some 30) _ = _
     simp only [Act.put, List.setIfInBounds_toArray, List.set_cons_zero, List.set_cons_succ, i64_w, i32_w]
     rfl
    refine one_ (i := 15) (N := some 32) #[true, true, true, true, true, true, true, true, true, true, true, true, true, true, true, true, false, false, false] rfl rfl (one_of HT_.out (by kernel_rfl)) (by decide) (fun K hK => ?_)
    refine goes_ Tryd.func12 (by kernel_rfl) rfl #[.agg #[.int .i64 a0_0, .bool a0_1, .bool a0_2, .bool a0_3, .bool a0_4, .bool a0_5, .bool a0_6, .int .i64 a0_7, .int .u64 a0_8, .int .i64 a0_9, .int .u64 a0_10, .int .i64 a0_11, .int .i64 a0_12, .int .i64 a0_13, .int .i64 a0_14, .int .i64 a0_15]] (by first | rfl | exact wanted_on rfl rfl rfl (by first | rfl | (simp [*]; done) | (simp [*, IntKind.wrap_u32]; done))) rfl rfl (by (try simp only [List.map_toArray, List.map_cons, List.map_nil]); first | done | rfl | (simp only [List.length_drop, List.length_take]; rfl)) ?_
    with_reducible refine (gangwayref09_Check.calls k a0_0 a0_1 a0_2 a0_3 a0_4 a0_5 a0_6 a0_7 a0_8 a0_9 a0_10 a0_11 a0_12 a0_13 a0_14 a0_15 t400 _ A9.out).mono ?_
    rintro e w18 ⟨rfl, hb⟩
    refine ⟨_, rfl, ?_⟩
    have n0_ := Aside0.mk (blk_below (g := gb393) (o := .cells #[.int .i64 a0_0, .bool a0_1, .bool a0_2, .bool a0_3, .bool a0_4, .bool a0_5, .bool a0_6, .int .i64 a0_7, .int .u64 a0_8, .int .i64 a0_9, .int .u64 a0_10, .int .i64 a0_11, .int .i64 a0_12, .int .i64 a0_13, .int .i64 a0_14, .int .i64 a0_15] 24 (0, 0)) (by (with_reducible repeat (first | refine blk_drewN ?_ _ | refine blk_drew ?_ | refine blk_alloc ?_ _)); exact BK393.out) hb)
    have n1_ := Aside0.mk (below_step (by repeat (first | (with_reducible first | exact HB.out | apply below_alloc | apply pw_below_drewN | apply below_drew1 | refine below_set ?_ GE393.out) | exact HB.out)) hb)
    clear BK393
    clear HB
    have BK393 := n0_
    have HB := n1_
    clear n0_ n1_
    (try clear hb)
    (try clear hb2)
    (try clear hk)
    (try clear hi)
    refine hK.out _ _ ⟨(blk_cell BK393.out 0).trans rfl, (blk_cell BK393.out 1).trans rfl, (blk_cell BK393.out 2).trans rfl, (blk_cell BK393.out 3).trans rfl, (blk_cell BK393.out 4).trans rfl, (blk_cell BK393.out 5).trans rfl, (blk_cell BK393.out 6).trans rfl, (blk_cell BK393.out 7).trans rfl, (blk_cell BK393.out 8).trans rfl, (blk_cell BK393.out 9).trans rfl, (blk_cell BK393.out 10).trans rfl, (blk_cell BK393.out 11).trans rfl, (blk_cell BK393.out 12).trans rfl, (blk_cell BK393.out 13).trans rfl, (blk_cell BK393.out 14).trans rfl, (blk_cell BK393.out 15).trans rfl⟩ (fun hHeld => ?_)
    clear hK K
    refine norm_ (a' := ?_) ?_ ?_
    rotate_left
    ·show Act.put _ (some 32) _ = _
     simp only [Act.put, List.setIfInBounds_toArray, List.set_cons_zero, List.set_cons_succ, i64_w, i32_w]
     rfl
    refine pure_ (i := 16) (N := some 33) (v := ?_) (a' := ?_) #[true, true, true, true, true, true, true, true, true, true, true, true, true, true, true, true, true, false, false] rfl rfl (any_of HT_.out (by kernel_rfl)) (fun _ _ _ h => h) (Or.inl ⟨by rfl, ?_⟩) ?_ ?_
    rotate_left
    ·intro w'
     go_simp
     first | with_reducible rfl | (rw [if_neg (by (try simp only [decide_eq_true_eq, ByteArray.size_append, ByteArray.size_extract, eq_iff_iff, iff_true, iff_false, Nat.not_lt] at *); omega)]; try with_reducible rfl)
    rotate_left
    ·simp only [Act.put, List.setIfInBounds_toArray, List.set_cons_zero, List.set_cons_succ, i64_w, i32_w]
     rfl
    refine pure_ (i := 17) (N := some 34) (v := ?_) (a' := ?_) #[true, true, true, true, true, true, true, true, true, true, true, true, true, true, true, true, true, true, false] rfl rfl (any_of HT_.out (by kernel_rfl)) (fun _ _ _ h => h) (Or.inl ⟨by rfl, ?_⟩) ?_ ?_
    rotate_left
    ·intro w'
     go_simp
     first | with_reducible rfl | (rw [if_neg (by (try simp only [decide_eq_true_eq, ByteArray.size_append, ByteArray.size_extract, eq_iff_iff, iff_true, iff_false, Nat.not_lt] at *); omega)]; try with_reducible rfl)
    rotate_left
    ·simp only [Act.put, List.setIfInBounds_toArray, List.set_cons_zero, List.set_cons_succ, i64_w, i32_w]
     rfl
    refine pure_ (i := 18) (N := some 2) (v := ?_) (a' := ?_) #[true, true, true, true, true, true, true, true, true, true, true, true, true, true, true, true, true, true, true] rfl rfl (any_of HT_.out (by kernel_rfl)) (fun _ _ _ h => h) (Or.inl ⟨by rfl, ?_⟩) ?_ ?_
    rotate_left
    ·intro w'
     go_simp
     first | with_reducible rfl | (rw [if_neg (by (try simp only [decide_eq_true_eq, ByteArray.size_append, ByteArray.size_extract, eq_iff_iff, iff_true, iff_false, Nat.not_lt] at *); omega)]; try with_reducible rfl)
    rotate_left
    ·simp only [Act.put, List.setIfInBounds_toArray, List.set_cons_zero, List.set_cons_succ, i64_w, i32_w]
     rfl
    refine done_ (done_of HT_.out (by kernel_rfl)) ?_
    try go_wp2_with (first | ((with_reducible refine gate_st (ty := 24) rfl ?_); (try (with_reducible refine gate_gd rfl ?_; refine gate_guard (by first | rfl | exact wanted_on rfl rfl rfl (by first | rfl | (simp [*]; done))) ?_; dsimp only)); refine storeC16 rfl rfl rfl rfl rfl (by repeat (first | (with_reducible apply blk_far; case hp => assumption) | (with_reducible apply blk_set) | (with_reducible refine blk_drewN ?_ _) | (with_reducible refine blk_drew ?_) | (with_reducible refine blk_alloc ?_ _) | (first | with_reducible exact BK393.out))) (by first | (simp only [List.setIfInBounds_toArray, List.set_cons_zero, List.set_cons_succ] <;> rfl) | rfl) (by kernel_rfl) rfl ?_) | ((with_reducible refine gate_ld (ty := 24) rfl ?_); (try (with_reducible refine gate_gd rfl ?_; refine gate_guard (by first | rfl | exact wanted_on rfl rfl rfl (by first | rfl | (simp [*]; done))) ?_; dsimp only)); refine load_st rfl rfl rfl (by repeat (first | (with_reducible apply blk_far; case hp => assumption) | (with_reducible apply blk_set) | (with_reducible refine blk_drewN ?_ _) | (with_reducible refine blk_drew ?_) | (with_reducible refine blk_alloc ?_ _) | (first | with_reducible exact BK393.out))) (by first | (simp only [List.setIfInBounds_toArray, List.set_cons_zero, List.set_cons_succ] <;> rfl) | rfl) Tryd.underlying24 rfl (by kernel_rfl) ?_; (try simp only [Act.put, List.setIfInBounds_toArray, List.set_cons_zero, List.set_cons_succ])) | go_in)
    go_ret
    exact ⟨by first | rfl | (simp [errW_none, errW_some] <;> rfl) | (simp [*, errW_none, errW_some] <;> rfl) | (simp [*, IntKind.wrap_u32]; done) | (simp_all [IntKind.wrap_u32]; done), by repeat (first | (with_reducible first | exact HB.out | apply below_alloc | apply pw_below_drewN | apply below_drew1 | refine below_set ?_ GE393.out) | exact HB.out)⟩
   ·rw [if_neg c7] at H
    have c7b0 : (t395 == t397) = false := beq_eq_false_iff_ne.mpr c7
    have c7b1 : (t395 != t397) = true := bne_iff_ne.mpr c7
    exact absurd H (by simp)
  ·rw [if_neg c6] at H
   have c6b0 : (t394.toList == t396.toList) = false := beq_eq_false_iff_ne.mpr c6
   have c6b1 : (t394.toList != t396.toList) = true := bne_iff_ne.mpr c6
   exact absurd H (by simp)
 ·replace c5 := Bool.eq_false_iff.mpr c5
  subst c5
  have H1 : (none) = some r := by rw [if_neg (show ¬ (false = true) by decide)] at H; exact H
  clear H
  have H := H1
  clear H1
  exact absurd H (by simp)

end Go.Proofs.YtbfjlhjfpmgplaaDoor.P
