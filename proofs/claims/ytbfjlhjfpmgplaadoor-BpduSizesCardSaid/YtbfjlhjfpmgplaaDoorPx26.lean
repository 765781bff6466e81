-- squeezed
-- Written by wip/hprint.py (this session's program) through the kit's print program; hand contracts are marked 'by hand'.
import Derived.Test.YtbfjlhjfpmgplaaDoorRow
import Derived.Test.YtbfjlhjfpmgplaaDoorPx0
import Derived.Test.YtbfjlhjfpmgplaaDoorPx1
import Derived.Test.YtbfjlhjfpmgplaaDoorPx8
import Derived.Test.YtbfjlhjfpmgplaaDoorPx16
import Derived.Test.YtbfjlhjfpmgplaaDoorPx18
namespace Go.Proofs.YtbfjlhjfpmgplaaDoor.P
open Go.RowKit Go.Proofs.YtbfjlhjfpmgplaaDoorW.PrintWords Go.Proofs.YtbfjlhjfpmgplaaDoorW.PrintLast Go.Proofs.YtbfjlhjfpmgplaaDoorW.PrintMore
attribute [local go_sem] max2_int min2_int max_two min_two max_three min_three max_four min_four   -- for this text's walks alone
set_option linter.unusedVariables false
set_option linter.unusedSimpArgs false

attribute [local go_sem high] eqA24
/-! ### gangwaylaw09_BpduSizes: function 7 -/
mutual
def gangwaylaw09_BpduSizes.j0 : Nat → Int → ByteArray → Int → Int → Bool → Bool → Bool → Bool → Bool → Bool → Int → Int → Int → Int → Int → Int → Int → Int → Int → Option (Bool)
 | 0, _, _, _, _, _, _, _, _, _, _, _, _, _, _, _, _, _, _, _ => none
 | k + 1, x1, x5, x7, x599000, x599001, x599002, x599003, x599004, x599005, x599006, x599007, x599008, x599009, x599010, x599011, x599012, x599013, x599014, x599015 => if x599000 = 2 then (gangwaylaw09_BpduSizes.j1 k x1 x5 39) else (gangwaylaw09_BpduSizes.j1 k x1 x5 x7)
def gangwaylaw09_BpduSizes.j1 : Nat → Int → ByteArray → Int → Option (Bool)
 | 0, _, _, _ => none
 | k + 1, x1, x5, x7 => if (x5.size : Int) = x7 then (if (x5.size : Int) = 0 then (none) else (if 0 ≤ (Int.tmod (Go.bits .and .i64 x1 65535) (x5.size : Int)) then (if (Int.tmod (Go.bits .and .i64 x1 65535) (x5.size : Int)) ≤ (x5.size : Int) then ((bpdu_Parse.f k (x5.extract 0 ((Int.tmod (Go.bits .and .i64 x1 65535) (x5.size : Int)) : Int).toNat)).bind fun bt602 => (if bt602.2.2.2.2.2.2.2.2.2.2.2.2.2.2.2.2 = 90 then (if (bt602.1 == 0 && (!bt602.2.1 && (!bt602.2.2.1 && (!bt602.2.2.2.1 && (!bt602.2.2.2.2.1 && (!bt602.2.2.2.2.2.1 && (!bt602.2.2.2.2.2.2.1 && (bt602.2.2.2.2.2.2.2.1 == 0 && (bt602.2.2.2.2.2.2.2.2.1 == 0 && (bt602.2.2.2.2.2.2.2.2.2.1 == 0 && (bt602.2.2.2.2.2.2.2.2.2.2.1 == 0 && (bt602.2.2.2.2.2.2.2.2.2.2.2.1 == 0 && (bt602.2.2.2.2.2.2.2.2.2.2.2.2.1 == 0 && (bt602.2.2.2.2.2.2.2.2.2.2.2.2.2.1 == 0 && (bt602.2.2.2.2.2.2.2.2.2.2.2.2.2.2.1 == 0 && (bt602.2.2.2.2.2.2.2.2.2.2.2.2.2.2.2.1 == 0)))))))))))))))) = true then ((gangwaylaw09_fixed.f k).bind fun t620 => (some t620)) else (none)) else (none))) else (none)) else (none))) else (none)
end
def gangwaylaw09_BpduSizes.f (k : Nat) (a0_0 : Int) (a0_1 : Bool) (a0_2 : Bool) (a0_3 : Bool) (a0_4 : Bool) (a0_5 : Bool) (a0_6 : Bool) (a0_7 : Int) (a0_8 : Int) (a0_9 : Int) (a0_10 : Int) (a0_11 : Int) (a0_12 : Int) (a0_13 : Int) (a0_14 : Int) (a0_15 : Int) (a1 : Int) : Option (Bool) := (bpdu_Build.f k a0_0 a0_1 a0_2 a0_3 a0_4 a0_5 a0_6 a0_7 a0_8 a0_9 a0_10 a0_11 a0_12 a0_13 a0_14 a0_15).bind fun bt599 => (if bt599.2 = 0 then (if a0_0 = 128 then (gangwaylaw09_BpduSizes.j0 k a1 bt599.1 7 a0_0 a0_1 a0_2 a0_3 a0_4 a0_5 a0_6 a0_7 a0_8 a0_9 a0_10 a0_11 a0_12 a0_13 a0_14 a0_15) else (gangwaylaw09_BpduSizes.j0 k a1 bt599.1 38 a0_0 a0_1 a0_2 a0_3 a0_4 a0_5 a0_6 a0_7 a0_8 a0_9 a0_10 a0_11 a0_12 a0_13 a0_14 a0_15)) else (if bt599.1.toList = ([] : List UInt8) then ((gangwaylaw09_fixed.f k).bind fun t601 => (some t601)) else (none)))
theorem gangwaylaw09_BpduSizes.mono_l : ∀ k, (∀ y0 y1 y2 y3 y4 y5 y6 y7 y8 y9 y10 y11 y12 y13 y14 y15 y16 y17 y18, LeO (gangwaylaw09_BpduSizes.j0 k y0 y1 y2 y3 y4 y5 y6 y7 y8 y9 y10 y11 y12 y13 y14 y15 y16 y17 y18) (gangwaylaw09_BpduSizes.j0 (k + 1) y0 y1 y2 y3 y4 y5 y6 y7 y8 y9 y10 y11 y12 y13 y14 y15 y16 y17 y18)) ∧ (∀ y0 y1 y2, LeO (gangwaylaw09_BpduSizes.j1 k y0 y1 y2) (gangwaylaw09_BpduSizes.j1 (k + 1) y0 y1 y2))
 | 0 => ⟨fun _ _ _ _ _ _ _ _ _ _ _ _ _ _ _ _ _ _ _ r h => by simp [gangwaylaw09_BpduSizes.j0] at h, fun _ _ _ r h => by simp [gangwaylaw09_BpduSizes.j1] at h⟩
 | k + 1 => by
  obtain ⟨ih0, ih1⟩ := gangwaylaw09_BpduSizes.mono_l k
  refine ⟨?_, ?_⟩
  ·intro y0 y1 y2 y3 y4 y5 y6 y7 y8 y9 y10 y11 y12 y13 y14 y15 y16 y17 y18
   unfold gangwaylaw09_BpduSizes.j0
   repeat' first
   | (with_reducible exact ih0 _ _ _ _ _ _ _ _ _ _ _ _ _ _ _ _ _ _ _)
   | (with_reducible exact ih1 _ _ _)
   | (with_reducible exact bpdu_Build.mono _ _ _ _ _ _ _ _ _ _ _ _ _ _ _ _ _)
   | (with_reducible exact bpdu_Parse.mono _ _)
   | (with_reducible exact gangwaylaw09_fixed.mono _)
   | (with_reducible exact LeO.refl _)
   | (with_reducible exact LeO.none _)
   | (with_reducible refine LeO.ite ?_ ?_)
   | (with_reducible refine LeO.bind ?_ (fun _ => ?_))
   | exact ih0 _ _ _ _ _ _ _ _ _ _ _ _ _ _ _ _ _ _ _
   | exact ih1 _ _ _
   | exact bpdu_Build.mono _ _ _ _ _ _ _ _ _ _ _ _ _ _ _ _ _
   | exact bpdu_Parse.mono _ _
   | exact gangwaylaw09_fixed.mono _
   | exact LeO.none _
   | refine LeO.ite ?_ ?_
   | refine LeO.bind ?_ (fun _ => ?_)
  ·intro y0 y1 y2
   unfold gangwaylaw09_BpduSizes.j1
   repeat' first
   | (with_reducible exact ih0 _ _ _ _ _ _ _ _ _ _ _ _ _ _ _ _ _ _ _)
   | (with_reducible exact ih1 _ _ _)
   | (with_reducible exact bpdu_Build.mono _ _ _ _ _ _ _ _ _ _ _ _ _ _ _ _ _)
   | (with_reducible exact bpdu_Parse.mono _ _)
   | (with_reducible exact gangwaylaw09_fixed.mono _)
   | (with_reducible exact LeO.refl _)
   | (with_reducible exact LeO.none _)
   | (with_reducible refine LeO.ite ?_ ?_)
   | (with_reducible refine LeO.bind ?_ (fun _ => ?_))
   | exact ih0 _ _ _ _ _ _ _ _ _ _ _ _ _ _ _ _ _ _ _
   | exact ih1 _ _ _
   | exact bpdu_Build.mono _ _ _ _ _ _ _ _ _ _ _ _ _ _ _ _ _
   | exact bpdu_Parse.mono _ _
   | exact gangwaylaw09_fixed.mono _
   | exact LeO.none _
   | refine LeO.ite ?_ ?_
   | refine LeO.bind ?_ (fun _ => ?_)
theorem gangwaylaw09_BpduSizes.mono : ∀ a0 a1 a2 a3 a4 a5 a6 a7 a8 a9 a10 a11 a12 a13 a14 a15 a16 k, LeO (gangwaylaw09_BpduSizes.f k a0 a1 a2 a3 a4 a5 a6 a7 a8 a9 a10 a11 a12 a13 a14 a15 a16) (gangwaylaw09_BpduSizes.f (k + 1) a0 a1 a2 a3 a4 a5 a6 a7 a8 a9 a10 a11 a12 a13 a14 a15 a16) := by
 intro a0 a1 a2 a3 a4 a5 a6 a7 a8 a9 a10 a11 a12 a13 a14 a15 a16 k
 obtain ⟨ih0, ih1⟩ := gangwaylaw09_BpduSizes.mono_l k
 unfold gangwaylaw09_BpduSizes.f
 repeat' first
   | (with_reducible exact ih0 _ _ _ _ _ _ _ _ _ _ _ _ _ _ _ _ _ _ _)
   | (with_reducible exact ih1 _ _ _)
   | (with_reducible exact bpdu_Build.mono _ _ _ _ _ _ _ _ _ _ _ _ _ _ _ _ _)
   | (with_reducible exact bpdu_Parse.mono _ _)
   | (with_reducible exact gangwaylaw09_fixed.mono _)
   | (with_reducible exact LeO.refl _)
   | (with_reducible exact LeO.none _)
   | (with_reducible refine LeO.ite ?_ ?_)
   | (with_reducible refine LeO.bind ?_ (fun _ => ?_))
   | exact ih0 _ _ _ _ _ _ _ _ _ _ _ _ _ _ _ _ _ _ _
   | exact ih1 _ _ _
   | exact bpdu_Build.mono _ _ _ _ _ _ _ _ _ _ _ _ _ _ _ _ _
   | exact bpdu_Parse.mono _ _
   | exact gangwaylaw09_fixed.mono _
   | exact LeO.none _
   | refine LeO.ite ?_ ?_
   | refine LeO.bind ?_ (fun _ => ?_)
set_option maxHeartbeats 8000000 in
set_option maxRecDepth 100000 in
theorem gangwaylaw09_BpduSizes.calls (k : Nat) (a0_0 : Int) (a0_1 : Bool) (a0_2 : Bool) (a0_3 : Bool) (a0_4 : Bool) (a0_5 : Bool) (a0_6 : Bool) (a0_7 : Int) (a0_8 : Int) (a0_9 : Int) (a0_10 : Int) (a0_11 : Int) (a0_12 : Int) (a0_13 : Int) (a0_14 : Int) (a0_15 : Int) (a1 : Int) (r : Bool) (w : World) (h : gangwaylaw09_BpduSizes.f k a0_0 a0_1 a0_2 a0_3 a0_4 a0_5 a0_6 a0_7 a0_8 a0_9 a0_10 a0_11 a0_12 a0_13 a0_14 a0_15 a1 = some r) :
  Calls Tryd.prog 7 #[.agg #[.int .i64 a0_0, .bool a0_1, .bool a0_2, .bool a0_3, .bool a0_4, .bool a0_5, .bool a0_6, .int .i64 a0_7, .int .u64 a0_8, .int .i64 a0_9, .int .u64 a0_10, .int .i64 a0_11, .int .i64 a0_12, .int .i64 a0_13, .int .i64 a0_14, .int .i64 a0_15], .int .i64 a1] w fun e w' => e = .returned (.bool r) ∧ Below w.heap.size w w' := by
 have hu24 := Tryd.underlying24
 have HB := Aside0.mk (Below.refl w.heap.size w)
 have H : ((bpdu_Build.f k a0_0 a0_1 a0_2 a0_3 a0_4 a0_5 a0_6 a0_7 a0_8 a0_9 a0_10 a0_11 a0_12 a0_13 a0_14 a0_15).bind fun bt599 => (if bt599.2 = 0 then (if a0_0 = 128 then (gangwaylaw09_BpduSizes.j0 k a1 bt599.1 7 a0_0 a0_1 a0_2 a0_3 a0_4 a0_5 a0_6 a0_7 a0_8 a0_9 a0_10 a0_11 a0_12 a0_13 a0_14 a0_15) else (gangwaylaw09_BpduSizes.j0 k a1 bt599.1 38 a0_0 a0_1 a0_2 a0_3 a0_4 a0_5 a0_6 a0_7 a0_8 a0_9 a0_10 a0_11 a0_12 a0_13 a0_14 a0_15)) else (if bt599.1.toList = ([] : List UInt8) then ((gangwaylaw09_fixed.f k).bind fun t601 => (some t601)) else (none)))) = some r := h
 clear h
 replace H := Option.bind_eq_some_iff.mp H
 obtain ⟨⟨t599, t600⟩, A30, H⟩ := H
 replace H : (if t600 = 0 then (if a0_0 = 128 then (gangwaylaw09_BpduSizes.j0 k a1 t599 7 a0_0 a0_1 a0_2 a0_3 a0_4 a0_5 a0_6 a0_7 a0_8 a0_9 a0_10 a0_11 a0_12 a0_13 a0_14 a0_15) else (gangwaylaw09_BpduSizes.j0 k a1 t599 38 a0_0 a0_1 a0_2 a0_3 a0_4 a0_5 a0_6 a0_7 a0_8 a0_9 a0_10 a0_11 a0_12 a0_13 a0_14 a0_15)) else (if t599.toList = ([] : List UInt8) then ((gangwaylaw09_fixed.f k).bind fun t601 => (some t601)) else (none))) = some r := H
 have A3 := Aside0.mk A30
 clear A30
 by_cases c4 : t600 = 0
 ·rw [if_pos c4] at H
  have c4b0 : (t600 == 0) = true := beq_iff_eq.mpr c4
  have c4b1 : (t600 != 0) = false := bne_eq_false_iff_eq.mpr c4
  clear c4
  have HC5 := Aside0.mk H
  clear H
  go_enter Tryd.func7, Tryd.ntmps7
  go_upto_if 24 with (first | ((with_reducible refine gate_st (ty := 24) rfl ?_); (try (refine gate_guard (by rfl) ?_; dsimp only)); refine store16 rfl rfl rfl rfl rfl (by repeat (first | (with_reducible refine blk_drewN ?_ _) | (with_reducible refine blk_drew ?_) | (with_reducible refine blk_alloc ?_ _) | (with_reducible refine blk_far ?_ (by assumption) _) | (first | with_reducible exact BK598.out | with_reducible exact BK619.out))) (by kernel_rfl) rfl ?_) | ((with_reducible refine gate_ld (ty := 24) rfl ?_); (try (refine gate_guard (by rfl) ?_; dsimp only)); refine wpList_load_row rfl _ _ rfl _ rfl _ _ _ _ (by repeat (first | ((with_reducible refine gate_row16 ?_); with_reducible exact put16_0_16 (by repeat (first | (with_reducible refine blk_drewN ?_ _) | (with_reducible refine blk_drew ?_) | (with_reducible refine blk_alloc ?_ _) | (first | with_reducible exact BK598.out | with_reducible exact BK619.out)))) | (with_reducible refine blk_far ?_ (by assumption) _) | (with_reducible refine blk_set ?_ _ _) | (with_reducible refine blk_drewN ?_ _) | (with_reducible refine blk_drew ?_) | (with_reducible refine blk_alloc ?_ _) | (first | with_reducible exact BK598.out | with_reducible exact BK619.out))) Tryd.underlying24 rfl (by kernel_rfl) ?_; (try simp only [List.setIfInBounds_toArray, List.set_cons_zero, List.set_cons_succ])) | ((with_reducible refine gate_eql (ty := 24) rfl ?_); (try (refine gate_guard (by rfl) ?_; dsimp only)); refine eql24 rfl rfl rfl rfl true (by first | exact c21b0 | (simpa using c21b0)) ?_) | ((with_reducible refine gate_eql (ty := 24) rfl ?_); (try (refine gate_guard (by rfl) ?_; dsimp only)); refine eql24 rfl rfl rfl rfl false (by first | exact c21b0 | (simpa using c21b0)) ?_) | ((with_reducible refine gate_dst (N := 2) rfl ?_); refine box_event ?hg (N := 2) ?hd (cs := #[.int .i64 a0_0, .bool a0_1, .bool a0_2, .bool a0_3, .bool a0_4, .bool a0_5, .bool a0_6, .int .i64 a0_7, .int .u64 a0_8, .int .i64 a0_9, .int .u64 a0_10, .int .i64 a0_11, .int .i64 a0_12, .int .i64 a0_13, .int .i64 a0_14, .int .i64 a0_15]) (t := 24) ?hr ?_; (case hd => rfl); (case hg => rfl); (case hr => first | (go_simp; done) | (go_simp; rfl)); intro gb598 hg w6 hbox hb; have n0_ := Aside0.mk (below_step (by repeat (first | (with_reducible first | exact HB.out | apply below_alloc | apply pw_below_drewN | apply below_drew1) | exact HB.out)) hb); have n1_ := Aside0.mk (hbox); have n2_ := Aside0.mk ((by rw [hg]; exact (below_size (by repeat (first | (with_reducible first | exact HB.out | apply below_alloc | apply pw_below_drewN | apply below_drew1) | exact HB.out))) : w.heap.size ≤ gb598)); have n3_ := Aside0.mk ((by rw [hg]; exact (below_size (by repeat (first | (with_reducible first | exact HB.out | apply below_alloc | apply pw_below_drewN | apply below_drew1) | exact HB.out))) : w.heap.size ≤ gb598)); clear HB; have HB := n0_; have BK598 := n1_; have GW598 := n2_; have GE598 := n3_; clear n0_ n1_ n2_ n3_; clear hb hbox hg; obtain ⟨hcz7_0, hcz7_1, hcz7_2, hcz7_3, hcz7_4, hcz7_5, hcz7_6, hcz7_7, hcz7_8, hcz7_9, hcz7_10, hcz7_11, hcz7_12, hcz7_13, hcz7_14, hcz7_15⟩ := cells16 BK598.out; obtain ⟨hfz7_0, hfz7_1, hfz7_2, hfz7_3, hfz7_4, hfz7_5, hfz7_6, hfz7_7, hfz7_8, hfz7_9, hfz7_10, hfz7_11, hfz7_12, hfz7_13, hfz7_14, hfz7_15⟩ := frozen16 BK598.out) | ((with_reducible refine gate_callee (f := 8) rfl ?_); refine goesL_ (some 12) rfl rfl Tryd.func8 (by kernel_rfl) rfl #[.agg #[.int .i64 a0_0, .bool a0_1, .bool a0_2, .bool a0_3, .bool a0_4, .bool a0_5, .bool a0_6, .int .i64 a0_7, .int .u64 a0_8, .int .i64 a0_9, .int .u64 a0_10, .int .i64 a0_11, .int .i64 a0_12, .int .i64 a0_13, .int .i64 a0_14, .int .i64 a0_15]] rfl (by (try simp only [List.map_toArray, List.map_cons, List.map_nil]); first | done | rfl | (simp only [List.length_drop, List.length_take]; rfl)) ?_; (with_reducible refine (bpdu_Build.calls k a0_0 a0_1 a0_2 a0_3 a0_4 a0_5 a0_6 a0_7 a0_8 a0_9 a0_10 a0_11 a0_12 a0_13 a0_14 a0_15 t599 t600 _ A3.out).mono ?_); rintro e w8 ⟨rfl, hb⟩; refine ⟨_, rfl, ?_⟩; have n0_ := Aside0.mk (blk_below (g := gb598) (by (with_reducible repeat (first | refine blk_drewN ?_ _ | refine blk_drew ?_ | refine blk_alloc ?_ _)); exact BK598.out) hb); have n1_ := Aside0.mk (below_step (by repeat (first | (with_reducible first | exact HB.out | apply below_alloc | apply pw_below_drewN | apply below_drew1 | refine below_set ?_ GE598.out) | exact HB.out)) hb); clear BK598; clear HB; have BK598 := n0_; have HB := n1_; clear n0_ n1_; (try clear hb); (try clear hb2); (try clear hk); (try clear hi); obtain ⟨hcz9_0, hcz9_1, hcz9_2, hcz9_3, hcz9_4, hcz9_5, hcz9_6, hcz9_7, hcz9_8, hcz9_9, hcz9_10, hcz9_11, hcz9_12, hcz9_13, hcz9_14, hcz9_15⟩ := cells16 BK598.out; obtain ⟨hfz9_0, hfz9_1, hfz9_2, hfz9_3, hfz9_4, hfz9_5, hfz9_6, hfz9_7, hfz9_8, hfz9_9, hfz9_10, hfz9_11, hfz9_12, hfz9_13, hfz9_14, hfz9_15⟩ := frozen16 BK598.out))
  (try simp only [Act.put, List.setIfInBounds_toArray, List.set_cons_zero, List.set_cons_succ])
  go_cut [7] (fun v7 wc => ∃ (kq : Nat) (x7_4 : Int), v7 = .int .i64 x7_4 ∧ Aside0 (gangwaylaw09_BpduSizes.j0 kq a1 t599 x7_4 a0_0 a0_1 a0_2 a0_3 a0_4 a0_5 a0_6 a0_7 a0_8 a0_9 a0_10 a0_11 a0_12 a0_13 a0_14 a0_15 = some r) ∧ Aside0 (kq ≤ k) ∧ Aside0 (wc.heap[gb598]? = some (.cells #[.int .i64 a0_0, .bool a0_1, .bool a0_2, .bool a0_3, .bool a0_4, .bool a0_5, .bool a0_6, .int .i64 a0_7, .int .u64 a0_8, .int .i64 a0_9, .int .u64 a0_10, .int .i64 a0_11, .int .i64 a0_12, .int .i64 a0_13, .int .i64 a0_14, .int .i64 a0_15] 24 (0, 0))) ∧ Aside0 (Below w.heap.size w wc))
  case first =>
   have H := HC5.out
   clear HC5
   by_cases c10 : a0_0 = 128
   ·rw [if_pos c10] at H
    have c10b0 : (a0_0 == 128) = true := beq_iff_eq.mpr c10
    have c10b1 : (a0_0 != 128) = false := bne_eq_false_iff_eq.mpr c10
    clear c10
    (first | rw [c10b0] | (simp only [i64_w, i32_w]; rw [c10b0]) | skip)
    have H' := Aside0.mk H
    clear H
    go_wp2_with (first | ((with_reducible refine gate_st (ty := 24) rfl ?_); (try (refine gate_guard (by rfl) ?_; dsimp only)); refine store16 rfl rfl rfl rfl rfl (by repeat (first | (with_reducible refine blk_drewN ?_ _) | (with_reducible refine blk_drew ?_) | (with_reducible refine blk_alloc ?_ _) | (with_reducible refine blk_far ?_ (by assumption) _) | (first | with_reducible exact BK598.out | with_reducible exact BK619.out))) (by kernel_rfl) rfl ?_) | ((with_reducible refine gate_ld (ty := 24) rfl ?_); (try (refine gate_guard (by rfl) ?_; dsimp only)); refine wpList_load_row rfl _ _ rfl _ rfl _ _ _ _ (by repeat (first | ((with_reducible refine gate_row16 ?_); with_reducible exact put16_0_16 (by repeat (first | (with_reducible refine blk_drewN ?_ _) | (with_reducible refine blk_drew ?_) | (with_reducible refine blk_alloc ?_ _) | (first | with_reducible exact BK598.out | with_reducible exact BK619.out)))) | (with_reducible refine blk_far ?_ (by assumption) _) | (with_reducible refine blk_set ?_ _ _) | (with_reducible refine blk_drewN ?_ _) | (with_reducible refine blk_drew ?_) | (with_reducible refine blk_alloc ?_ _) | (first | with_reducible exact BK598.out | with_reducible exact BK619.out))) Tryd.underlying24 rfl (by kernel_rfl) ?_; (try simp only [List.setIfInBounds_toArray, List.set_cons_zero, List.set_cons_succ])) | ((with_reducible refine gate_eql (ty := 24) rfl ?_); (try (refine gate_guard (by rfl) ?_; dsimp only)); refine eql24 rfl rfl rfl rfl true (by first | exact c21b0 | (simpa using c21b0)) ?_) | ((with_reducible refine gate_eql (ty := 24) rfl ?_); (try (refine gate_guard (by rfl) ?_; dsimp only)); refine eql24 rfl rfl rfl rfl false (by first | exact c21b0 | (simpa using c21b0)) ?_) | go_in)
    go_meet
    case rel => exact ⟨_, (7), (by first | rfl | (simp; done) | (simp [*]; done)), H', ⟨by first | omega | exact Nat.le_refl _⟩, ⟨by (with_reducible repeat (first | refine blk_drewN ?_ _ | refine blk_drew ?_ | refine blk_alloc ?_ _)); exact BK598.out⟩, ⟨by repeat (first | (with_reducible first | exact HB.out | apply below_alloc | apply pw_below_drewN | apply below_drew1 | refine below_set ?_ GE598.out) | exact HB.out)⟩⟩
   ·rw [if_neg c10] at H
    have c10b0 : (a0_0 == 128) = false := beq_eq_false_iff_ne.mpr c10
    have c10b1 : (a0_0 != 128) = true := bne_iff_ne.mpr c10
    (first | rw [c10b0] | (simp only [i64_w, i32_w]; rw [c10b0]) | skip)
    have H' := Aside0.mk H
    clear H
    go_wp2_with (first | ((with_reducible refine gate_st (ty := 24) rfl ?_); (try (refine gate_guard (by rfl) ?_; dsimp only)); refine store16 rfl rfl rfl rfl rfl (by repeat (first | (with_reducible refine blk_drewN ?_ _) | (with_reducible refine blk_drew ?_) | (with_reducible refine blk_alloc ?_ _) | (with_reducible refine blk_far ?_ (by assumption) _) | (first | with_reducible exact BK598.out | with_reducible exact BK619.out))) (by kernel_rfl) rfl ?_) | ((with_reducible refine gate_ld (ty := 24) rfl ?_); (try (refine gate_guard (by rfl) ?_; dsimp only)); refine wpList_load_row rfl _ _ rfl _ rfl _ _ _ _ (by repeat (first | ((with_reducible refine gate_row16 ?_); with_reducible exact put16_0_16 (by repeat (first | (with_reducible refine blk_drewN ?_ _) | (with_reducible refine blk_drew ?_) | (with_reducible refine blk_alloc ?_ _) | (first | with_reducible exact BK598.out | with_reducible exact BK619.out)))) | (with_reducible refine blk_far ?_ (by assumption) _) | (with_reducible refine blk_set ?_ _ _) | (with_reducible refine blk_drewN ?_ _) | (with_reducible refine blk_drew ?_) | (with_reducible refine blk_alloc ?_ _) | (first | with_reducible exact BK598.out | with_reducible exact BK619.out))) Tryd.underlying24 rfl (by kernel_rfl) ?_; (try simp only [List.setIfInBounds_toArray, List.set_cons_zero, List.set_cons_succ])) | ((with_reducible refine gate_eql (ty := 24) rfl ?_); (try (refine gate_guard (by rfl) ?_; dsimp only)); refine eql24 rfl rfl rfl rfl true (by first | exact c21b0 | (simpa using c21b0)) ?_) | ((with_reducible refine gate_eql (ty := 24) rfl ?_); (try (refine gate_guard (by rfl) ?_; dsimp only)); refine eql24 rfl rfl rfl rfl false (by first | exact c21b0 | (simpa using c21b0)) ?_) | go_in)
    go_meet
    case rel => exact ⟨_, (38), (by first | rfl | (simp; done) | (simp [*]; done)), H', ⟨by first | omega | exact Nat.le_refl _⟩, ⟨by (with_reducible repeat (first | refine blk_drewN ?_ _ | refine blk_drew ?_ | refine blk_alloc ?_ _)); exact BK598.out⟩, ⟨by repeat (first | (with_reducible first | exact HB.out | apply below_alloc | apply pw_below_drewN | apply below_drew1 | refine below_set ?_ GE598.out) | exact HB.out)⟩⟩
  case rest =>
   clear HC5
   try clear c1
   try clear p2
   try clear c4
   try clear c4b0
   try clear c4b1
   try clear c7
   try clear c8
   try clear c10
   try clear c10b0
   try clear c10b1
   try clear hcz7_0
   try clear hcz7_1
   try clear hcz7_10
   try clear hcz7_11
   try clear hcz7_12
   try clear hcz7_13
   try clear hcz7_14
   try clear hcz7_15
   try clear hcz7_2
   try clear hcz7_3
   try clear hcz7_4
   try clear hcz7_5
   try clear hcz7_6
   try clear hcz7_7
   try clear hcz7_8
   try clear hcz7_9
   try clear hcz9_0
   try clear hcz9_1
   try clear hcz9_10
   try clear hcz9_11
   try clear hcz9_12
   try clear hcz9_13
   try clear hcz9_14
   try clear hcz9_15
   try clear hcz9_2
   try clear hcz9_3
   try clear hcz9_4
   try clear hcz9_5
   try clear hcz9_6
   try clear hcz9_7
   try clear hcz9_8
   try clear hcz9_9
   try clear hfz7_0
   try clear hfz7_1
   try clear hfz7_10
   try clear hfz7_11
   try clear hfz7_12
   try clear hfz7_13
   try clear hfz7_14
   try clear hfz7_15
   try clear hfz7_2
   try clear hfz7_3
   try clear hfz7_4
   try clear hfz7_5
   try clear hfz7_6
   try clear hfz7_7
   try clear hfz7_8
   try clear hfz7_9
   try clear hfz9_0
   try clear hfz9_1
   try clear hfz9_10
   try clear hfz9_11
   try clear hfz9_12
   try clear hfz9_13
   try clear hfz9_14
   try clear hfz9_15
   try clear hfz9_2
   try clear hfz9_3
   try clear hfz9_4
   try clear hfz9_5
   try clear hfz9_6
   try clear hfz9_7
   try clear hfz9_8
   try clear hfz9_9
   obtain ⟨kq, x7_4, rfl, HA, HJ4, BK598, HB⟩ := hcut
   cases kq with
   | zero => exact absurd HA.out (by simp [gangwaylaw09_BpduSizes.j0])
   | succ kj4 =>
    have H := HA.out
    clear HA
    simp only [gangwaylaw09_BpduSizes.j0] at H
    have HC11 := Aside0.mk H
    clear H
    obtain ⟨hcz12_0, hcz12_1, hcz12_2, hcz12_3, hcz12_4, hcz12_5, hcz12_6, hcz12_7, hcz12_8, hcz12_9, hcz12_10, hcz12_11, hcz12_12, hcz12_13, hcz12_14, hcz12_15⟩ := cells16 BK598.out
    obtain ⟨hfz12_0, hfz12_1, hfz12_2, hfz12_3, hfz12_4, hfz12_5, hfz12_6, hfz12_7, hfz12_8, hfz12_9, hfz12_10, hfz12_11, hfz12_12, hfz12_13, hfz12_14, hfz12_15⟩ := frozen16 BK598.out
    go_upto_if 27 with (fail)
    go_cut [7] (fun v7 wc => ∃ (kq : Nat) (x7_10 : Int), v7 = .int .i64 x7_10 ∧ Aside0 (gangwaylaw09_BpduSizes.j1 kq a1 t599 x7_10 = some r) ∧ Aside0 (kq ≤ kj4) ∧ Aside0 (wc.heap[gb598]? = some (.cells #[.int .i64 a0_0, .bool a0_1, .bool a0_2, .bool a0_3, .bool a0_4, .bool a0_5, .bool a0_6, .int .i64 a0_7, .int .u64 a0_8, .int .i64 a0_9, .int .u64 a0_10, .int .i64 a0_11, .int .i64 a0_12, .int .i64 a0_13, .int .i64 a0_14, .int .i64 a0_15] 24 (0, 0))) ∧ Aside0 (Below w.heap.size w wc))
    case first =>
     have H := HC11.out
     clear HC11
     by_cases c13 : a0_0 = 2
     ·rw [if_pos c13] at H
      have c13b0 : (a0_0 == 2) = true := beq_iff_eq.mpr c13
      have c13b1 : (a0_0 != 2) = false := bne_eq_false_iff_eq.mpr c13
      clear c13
      (first | rw [c13b0] | (simp only [i64_w, i32_w]; rw [c13b0]) | skip)
      have H' := Aside0.mk H
      clear H
      go_wp2_with (first | ((with_reducible refine gate_st (ty := 24) rfl ?_); (try (refine gate_guard (by rfl) ?_; dsimp only)); refine store16 rfl rfl rfl rfl rfl (by repeat (first | (with_reducible refine blk_drewN ?_ _) | (with_reducible refine blk_drew ?_) | (with_reducible refine blk_alloc ?_ _) | (with_reducible refine blk_far ?_ (by assumption) _) | (first | with_reducible exact BK598.out | with_reducible exact BK619.out))) (by kernel_rfl) rfl ?_) | ((with_reducible refine gate_ld (ty := 24) rfl ?_); (try (refine gate_guard (by rfl) ?_; dsimp only)); refine wpList_load_row rfl _ _ rfl _ rfl _ _ _ _ (by repeat (first | ((with_reducible refine gate_row16 ?_); with_reducible exact put16_0_16 (by repeat (first | (with_reducible refine blk_drewN ?_ _) | (with_reducible refine blk_drew ?_) | (with_reducible refine blk_alloc ?_ _) | (first | with_reducible exact BK598.out | with_reducible exact BK619.out)))) | (with_reducible refine blk_far ?_ (by assumption) _) | (with_reducible refine blk_set ?_ _ _) | (with_reducible refine blk_drewN ?_ _) | (with_reducible refine blk_drew ?_) | (with_reducible refine blk_alloc ?_ _) | (first | with_reducible exact BK598.out | with_reducible exact BK619.out))) Tryd.underlying24 rfl (by kernel_rfl) ?_; (try simp only [List.setIfInBounds_toArray, List.set_cons_zero, List.set_cons_succ])) | ((with_reducible refine gate_eql (ty := 24) rfl ?_); (try (refine gate_guard (by rfl) ?_; dsimp only)); refine eql24 rfl rfl rfl rfl true (by first | exact c21b0 | (simpa using c21b0)) ?_) | ((with_reducible refine gate_eql (ty := 24) rfl ?_); (try (refine gate_guard (by rfl) ?_; dsimp only)); refine eql24 rfl rfl rfl rfl false (by first | exact c21b0 | (simpa using c21b0)) ?_) | go_in)
      go_meet
      case rel => exact ⟨_, (39), (by first | rfl | (simp; done) | (simp [*]; done)), H', ⟨by have := HJ4.out; first | omega | exact Nat.le_refl _⟩, ⟨by (with_reducible repeat (first | refine blk_drewN ?_ _ | refine blk_drew ?_ | refine blk_alloc ?_ _)); exact BK598.out⟩, ⟨by repeat (first | (with_reducible first | exact HB.out | apply below_alloc | apply pw_below_drewN | apply below_drew1 | refine below_set ?_ GE598.out) | exact HB.out)⟩⟩
     ·rw [if_neg c13] at H
      have c13b0 : (a0_0 == 2) = false := beq_eq_false_iff_ne.mpr c13
      have c13b1 : (a0_0 != 2) = true := bne_iff_ne.mpr c13
      (first | rw [c13b0] | (simp only [i64_w, i32_w]; rw [c13b0]) | skip)
      have H' := Aside0.mk H
      clear H
      go_wp2_with (first | ((with_reducible refine gate_st (ty := 24) rfl ?_); (try (refine gate_guard (by rfl) ?_; dsimp only)); refine store16 rfl rfl rfl rfl rfl (by repeat (first | (with_reducible refine blk_drewN ?_ _) | (with_reducible refine blk_drew ?_) | (with_reducible refine blk_alloc ?_ _) | (with_reducible refine blk_far ?_ (by assumption) _) | (first | with_reducible exact BK598.out | with_reducible exact BK619.out))) (by kernel_rfl) rfl ?_) | ((with_reducible refine gate_ld (ty := 24) rfl ?_); (try (refine gate_guard (by rfl) ?_; dsimp only)); refine wpList_load_row rfl _ _ rfl _ rfl _ _ _ _ (by repeat (first | ((with_reducible refine gate_row16 ?_); with_reducible exact put16_0_16 (by repeat (first | (with_reducible refine blk_drewN ?_ _) | (with_reducible refine blk_drew ?_) | (with_reducible refine blk_alloc ?_ _) | (first | with_reducible exact BK598.out | with_reducible exact BK619.out)))) | (with_reducible refine blk_far ?_ (by assumption) _) | (with_reducible refine blk_set ?_ _ _) | (with_reducible refine blk_drewN ?_ _) | (with_reducible refine blk_drew ?_) | (with_reducible refine blk_alloc ?_ _) | (first | with_reducible exact BK598.out | with_reducible exact BK619.out))) Tryd.underlying24 rfl (by kernel_rfl) ?_; (try simp only [List.setIfInBounds_toArray, List.set_cons_zero, List.set_cons_succ])) | ((with_reducible refine gate_eql (ty := 24) rfl ?_); (try (refine gate_guard (by rfl) ?_; dsimp only)); refine eql24 rfl rfl rfl rfl true (by first | exact c21b0 | (simpa using c21b0)) ?_) | ((with_reducible refine gate_eql (ty := 24) rfl ?_); (try (refine gate_guard (by rfl) ?_; dsimp only)); refine eql24 rfl rfl rfl rfl false (by first | exact c21b0 | (simpa using c21b0)) ?_) | go_in)
      go_meet
      case rel => exact ⟨_, (x7_4), (by first | rfl | (simp; done) | (simp [*]; done)), H', ⟨by have := HJ4.out; first | omega | exact Nat.le_refl _⟩, ⟨by (with_reducible repeat (first | refine blk_drewN ?_ _ | refine blk_drew ?_ | refine blk_alloc ?_ _)); exact BK598.out⟩, ⟨by repeat (first | (with_reducible first | exact HB.out | apply below_alloc | apply pw_below_drewN | apply below_drew1 | refine below_set ?_ GE598.out) | exact HB.out)⟩⟩
    case rest =>
     clear HC11
     try clear c1
     try clear p2
     try clear c4
     try clear c4b0
     try clear c4b1
     try clear c7
     try clear c8
     try clear c10
     try clear c10b0
     try clear c10b1
     try clear c13
     try clear c13b0
     try clear c13b1
     try clear hcz12_0
     try clear hcz12_1
     try clear hcz12_10
     try clear hcz12_11
     try clear hcz12_12
     try clear hcz12_13
     try clear hcz12_14
     try clear hcz12_15
     try clear hcz12_2
     try clear hcz12_3
     try clear hcz12_4
     try clear hcz12_5
     try clear hcz12_6
     try clear hcz12_7
     try clear hcz12_8
     try clear hcz12_9
     try clear hcz7_0
     try clear hcz7_1
     try clear hcz7_10
     try clear hcz7_11
     try clear hcz7_12
     try clear hcz7_13
     try clear hcz7_14
     try clear hcz7_15
     try clear hcz7_2
     try clear hcz7_3
     try clear hcz7_4
     try clear hcz7_5
     try clear hcz7_6
     try clear hcz7_7
     try clear hcz7_8
     try clear hcz7_9
     try clear hcz9_0
     try clear hcz9_1
     try clear hcz9_10
     try clear hcz9_11
     try clear hcz9_12
     try clear hcz9_13
     try clear hcz9_14
     try clear hcz9_15
     try clear hcz9_2
     try clear hcz9_3
     try clear hcz9_4
     try clear hcz9_5
     try clear hcz9_6
     try clear hcz9_7
     try clear hcz9_8
     try clear hcz9_9
     try clear hfz12_0
     try clear hfz12_1
     try clear hfz12_10
     try clear hfz12_11
     try clear hfz12_12
     try clear hfz12_13
     try clear hfz12_14
     try clear hfz12_15
     try clear hfz12_2
     try clear hfz12_3
     try clear hfz12_4
     try clear hfz12_5
     try clear hfz12_6
     try clear hfz12_7
     try clear hfz12_8
     try clear hfz12_9
     try clear hfz7_0
     try clear hfz7_1
     try clear hfz7_10
     try clear hfz7_11
     try clear hfz7_12
     try clear hfz7_13
     try clear hfz7_14
     try clear hfz7_15
     try clear hfz7_2
     try clear hfz7_3
     try clear hfz7_4
     try clear hfz7_5
     try clear hfz7_6
     try clear hfz7_7
     try clear hfz7_8
     try clear hfz7_9
     try clear hfz9_0
     try clear hfz9_1
     try clear hfz9_10
     try clear hfz9_11
     try clear hfz9_12
     try clear hfz9_13
     try clear hfz9_14
     try clear hfz9_15
     try clear hfz9_2
     try clear hfz9_3
     try clear hfz9_4
     try clear hfz9_5
     try clear hfz9_6
     try clear hfz9_7
     try clear hfz9_8
     try clear hfz9_9
     try clear p2
     obtain ⟨kq, x7_10, rfl, HA, HJ10, BK598, HB⟩ := hcut
     cases kq with
     | zero => exact absurd HA.out (by simp [gangwaylaw09_BpduSizes.j1])
     | succ kj10 =>
      have H := HA.out
      clear HA
      simp only [gangwaylaw09_BpduSizes.j1] at H
      by_cases c14 : (t599.size : Int) = x7_10
      ·rw [if_pos c14] at H
       have c14b0 : ((t599.size : Int) == x7_10) = true := beq_iff_eq.mpr c14
       have c14b1 : ((t599.size : Int) != x7_10) = false := bne_eq_false_iff_eq.mpr c14
       clear c14
       by_cases c15 : (t599.size : Int) = 0
       ·rw [if_pos c15] at H
        exact absurd H (by simp)
       ·rw [if_neg c15] at H
        have c15b0 : ((t599.size : Int) == 0) = false := beq_eq_false_iff_ne.mpr c15
        have c15b1 : ((t599.size : Int) != 0) = true := bne_iff_ne.mpr c15
        obtain ⟨ji16, hji16⟩ : ∃ j_ : Int, (Int.tmod (Go.bits .and .i64 a1 65535) (t599.size : Int)) = j_ := ⟨_, rfl⟩
        replace H : (if 0 ≤ (ji16) then (if (ji16) ≤ (t599.size : Int) then ((bpdu_Parse.f kj10 (t599.extract 0 ((ji16) : Int).toNat)).bind fun bt602 => (if bt602.2.2.2.2.2.2.2.2.2.2.2.2.2.2.2.2 = 90 then (if (bt602.1 == 0 && (!bt602.2.1 && (!bt602.2.2.1 && (!bt602.2.2.2.1 && (!bt602.2.2.2.2.1 && (!bt602.2.2.2.2.2.1 && (!bt602.2.2.2.2.2.2.1 && (bt602.2.2.2.2.2.2.2.1 == 0 && (bt602.2.2.2.2.2.2.2.2.1 == 0 && (bt602.2.2.2.2.2.2.2.2.2.1 == 0 && (bt602.2.2.2.2.2.2.2.2.2.2.1 == 0 && (bt602.2.2.2.2.2.2.2.2.2.2.2.1 == 0 && (bt602.2.2.2.2.2.2.2.2.2.2.2.2.1 == 0 && (bt602.2.2.2.2.2.2.2.2.2.2.2.2.2.1 == 0 && (bt602.2.2.2.2.2.2.2.2.2.2.2.2.2.2.1 == 0 && (bt602.2.2.2.2.2.2.2.2.2.2.2.2.2.2.2.1 == 0)))))))))))))))) = true then ((gangwaylaw09_fixed.f kj10).bind fun t620 => (some t620)) else (none)) else (none))) else (none)) else (none)) = some r := by first | (rw [hji16] at H; exact H) | (simp only [hji16] at H ⊢; exact H)
        by_cases c17 : 0 ≤ (ji16)
        ·rw [if_pos c17] at H
         have c17b0 := eq_true c17
         have c17b1 : decide (0 ≤ (ji16)) = true := decide_eq_true c17
         clear c17
         by_cases c18 : (ji16) ≤ (t599.size : Int)
         ·rw [if_pos c18] at H
          have c18b0 := eq_true c18
          have c18b1 : decide ((ji16) ≤ (t599.size : Int)) = true := decide_eq_true c18
          clear c18
          replace H := Option.bind_eq_some_iff.mp H
          obtain ⟨⟨t602, t603, t604, t605, t606, t607, t608, t609, t610, t611, t612, t613, t614, t615, t616, t617, t618⟩, A190, H⟩ := H
          replace H : (if t618 = 90 then (if (t602 == 0 && (!t603 && (!t604 && (!t605 && (!t606 && (!t607 && (!t608 && (t609 == 0 && (t610 == 0 && (t611 == 0 && (t612 == 0 && (t613 == 0 && (t614 == 0 && (t615 == 0 && (t616 == 0 && (t617 == 0)))))))))))))))) = true then ((gangwaylaw09_fixed.f kj10).bind fun t620 => (some t620)) else (none)) else (none)) = some r := H
          have A19 := Aside0.mk A190
          clear A190
          by_cases c20 : t618 = 90
          ·rw [if_pos c20] at H
           have c20b0 : (t618 == 90) = true := beq_iff_eq.mpr c20
           have c20b1 : (t618 != 90) = false := bne_eq_false_iff_eq.mpr c20
           clear c20
           by_cases c21 : (t602 == 0 && (!t603 && (!t604 && (!t605 && (!t606 && (!t607 && (!t608 && (t609 == 0 && (t610 == 0 && (t611 == 0 && (t612 == 0 && (t613 == 0 && (t614 == 0 && (t615 == 0 && (t616 == 0 && (t617 == 0)))))))))))))))) = true
           ·rw [if_pos c21] at H
            have c21b0 : (t602 == 0 && (!t603 && (!t604 && (!t605 && (!t606 && (!t607 && (!t608 && (t609 == 0 && (t610 == 0 && (t611 == 0 && (t612 == 0 && (t613 == 0 && (t614 == 0 && (t615 == 0 && (t616 == 0 && (t617 == 0)))))))))))))))) = true := c21
            clear c21
            replace H := Option.bind_eq_some_iff.mp H
            obtain ⟨t620, A220, H⟩ := H
            replace H : (some t620) = some r := H
            have A22 := Aside0.mk A220
            clear A220
            obtain rfl := Option.some.inj H
            go_wp2_with (first | ((with_reducible refine gate_st (ty := 24) rfl ?_); (try (refine gate_guard (by rfl) ?_; dsimp only)); refine store16 rfl rfl rfl rfl rfl (by repeat (first | (with_reducible refine blk_drewN ?_ _) | (with_reducible refine blk_drew ?_) | (with_reducible refine blk_alloc ?_ _) | (with_reducible refine blk_far ?_ (by assumption) _) | (first | with_reducible exact BK598.out | with_reducible exact BK619.out))) (by kernel_rfl) rfl ?_) | ((with_reducible refine gate_ld (ty := 24) rfl ?_); (try (refine gate_guard (by rfl) ?_; dsimp only)); refine wpList_load_row rfl _ _ rfl _ rfl _ _ _ _ (by repeat (first | ((with_reducible refine gate_row16 ?_); with_reducible exact put16_0_16 (by repeat (first | (with_reducible refine blk_drewN ?_ _) | (with_reducible refine blk_drew ?_) | (with_reducible refine blk_alloc ?_ _) | (first | with_reducible exact BK598.out | with_reducible exact BK619.out)))) | (with_reducible refine blk_far ?_ (by assumption) _) | (with_reducible refine blk_set ?_ _ _) | (with_reducible refine blk_drewN ?_ _) | (with_reducible refine blk_drew ?_) | (with_reducible refine blk_alloc ?_ _) | (first | with_reducible exact BK598.out | with_reducible exact BK619.out))) Tryd.underlying24 rfl (by kernel_rfl) ?_; (try simp only [List.setIfInBounds_toArray, List.set_cons_zero, List.set_cons_succ])) | ((with_reducible refine gate_eql (ty := 24) rfl ?_); (try (refine gate_guard (by rfl) ?_; dsimp only)); refine eql24 rfl rfl rfl rfl true (by first | exact c21b0 | (simpa using c21b0)) ?_) | ((with_reducible refine gate_eql (ty := 24) rfl ?_); (try (refine gate_guard (by rfl) ?_; dsimp only)); refine eql24 rfl rfl rfl rfl false (by first | exact c21b0 | (simpa using c21b0)) ?_) | ((with_reducible refine gate_callee (f := 13) rfl ?_); refine goesL_ (some 40) rfl rfl Tryd.func13 (by kernel_rfl) rfl #[.string (t599.extract 0 ((ji16) : Int).toNat)] rfl (by (try simp only [List.map_toArray, List.map_cons, List.map_nil]); first | done | (simp only [hji16]; rfl) | rfl | (simp only [List.length_drop, List.length_take]; rfl)) ?_; (with_reducible refine (bpdu_Parse.calls kj10 (t599.extract 0 ((ji16) : Int).toNat) t602 t603 t604 t605 t606 t607 t608 t609 t610 t611 t612 t613 t614 t615 t616 t617 t618 _ A19.out).mono ?_); rintro e w23 ⟨rfl, hb⟩; refine ⟨_, rfl, ?_⟩; have n0_ := Aside0.mk (blk_below (g := gb598) (by (with_reducible repeat (first | refine blk_drewN ?_ _ | refine blk_drew ?_ | refine blk_alloc ?_ _)); exact BK598.out) hb); have n1_ := Aside0.mk (below_step (by repeat (first | (with_reducible first | exact HB.out | apply below_alloc | apply pw_below_drewN | apply below_drew1 | refine below_set ?_ GE598.out) | exact HB.out)) hb); clear BK598; clear HB; have BK598 := n0_; have HB := n1_; clear n0_ n1_; obtain ⟨hcy1_598_0, hcy1_598_1, hcy1_598_2, hcy1_598_3, hcy1_598_4, hcy1_598_5, hcy1_598_6, hcy1_598_7, hcy1_598_8, hcy1_598_9, hcy1_598_10, hcy1_598_11, hcy1_598_12, hcy1_598_13, hcy1_598_14, hcy1_598_15⟩ := cells16 BK598.out; (try clear hb); (try clear hb2); (try clear hk); (try clear hi)) | ((with_reducible refine gate_dst (N := 8) rfl ?_); refine box_event ?hg (N := 8) ?hd (cs := #[.int .i64 0, .bool false, .bool false, .bool false, .bool false, .bool false, .bool false, .int .i64 0, .int .u64 0, .int .i64 0, .int .u64 0, .int .i64 0, .int .i64 0, .int .i64 0, .int .i64 0, .int .i64 0]) (t := 24) ?hr ?_; (case hd => rfl); (case hg => rfl); (case hr => first | (go_simp; done) | (go_simp; rfl)); intro gb619 hg w24 hbox hb; have n0_ := Aside0.mk (blk_below (g := gb598) (by (with_reducible repeat (first | refine blk_drewN ?_ _ | refine blk_drew ?_ | refine blk_alloc ?_ _)); exact BK598.out) hb); have n1_ := Aside0.mk (below_step (by repeat (first | (with_reducible first | exact HB.out | apply below_alloc | apply pw_below_drewN | apply below_drew1 | refine below_set ?_ GE598.out) | exact HB.out)) hb); have n2_ := Aside0.mk (hbox); have n3_ := Aside0.mk ((by rw [hg]; exact (below_size (by repeat (first | (with_reducible first | exact HB.out | apply below_alloc | apply pw_below_drewN | apply below_drew1 | refine below_set ?_ GE598.out) | exact HB.out))) : w.heap.size ≤ gb619)); have n4_ := Aside0.mk ((by rw [hg]; exact (below_size (by repeat (first | (with_reducible first | exact HB.out | apply below_alloc | apply pw_below_drewN | apply below_drew1 | refine below_set ?_ GE598.out) | exact HB.out))) : w.heap.size ≤ gb619)); have n5_ := Aside0.mk ((by rw [hg]; exact Nat.ne_of_lt (blk_lt (g := gb598) (by (with_reducible repeat (first | refine blk_drewN ?_ _ | refine blk_drew ?_ | refine blk_alloc ?_ _)); exact BK598.out)) : gb598 ≠ gb619)); have n6_ := Aside0.mk ((by rw [hg]; exact Nat.ne_of_gt (blk_lt (g := gb598) (by (with_reducible repeat (first | refine blk_drewN ?_ _ | refine blk_drew ?_ | refine blk_alloc ?_ _)); exact BK598.out)) : gb619 ≠ gb598)); clear BK598; clear HB; have BK598 := n0_; have HB := n1_; have BK619 := n2_; have GW619 := n3_; have GE619 := n4_; have NB598_619 := n5_; have NB619_598 := n6_; clear n0_ n1_ n2_ n3_ n4_ n5_ n6_; obtain ⟨hcy2_598_0, hcy2_598_1, hcy2_598_2, hcy2_598_3, hcy2_598_4, hcy2_598_5, hcy2_598_6, hcy2_598_7, hcy2_598_8, hcy2_598_9, hcy2_598_10, hcy2_598_11, hcy2_598_12, hcy2_598_13, hcy2_598_14, hcy2_598_15⟩ := cells16 BK598.out; clear hb hbox hg; have hnb25 := NB619_598.out; have hnc25 := NB598_619.out; obtain ⟨hcz26_0, hcz26_1, hcz26_2, hcz26_3, hcz26_4, hcz26_5, hcz26_6, hcz26_7, hcz26_8, hcz26_9, hcz26_10, hcz26_11, hcz26_12, hcz26_13, hcz26_14, hcz26_15⟩ := cells16 BK619.out; obtain ⟨hfz26_0, hfz26_1, hfz26_2, hfz26_3, hfz26_4, hfz26_5, hfz26_6, hfz26_7, hfz26_8, hfz26_9, hfz26_10, hfz26_11, hfz26_12, hfz26_13, hfz26_14, hfz26_15⟩ := frozen16 BK619.out) | (obtain ⟨w24f, hgw_⟩ : ∃ y, y = (World.setCell (World.setCell (World.setCell (World.setCell w24 ⟨gb619, 0, none⟩ (.int .i64 t602)) ⟨gb619, 1, none⟩ (.bool t603)) ⟨gb619, 2, none⟩ (.bool t604)) ⟨gb619, 3, none⟩ (.bool t605)) := ⟨_, rfl⟩; rw [← hgw_]; have m0_ := Aside0.mk (show w24f.heap[gb598]? = some (.cells #[.int .i64 a0_0, .bool a0_1, .bool a0_2, .bool a0_3, .bool a0_4, .bool a0_5, .bool a0_6, .int .i64 a0_7, .int .u64 a0_8, .int .i64 a0_9, .int .u64 a0_10, .int .i64 a0_11, .int .i64 a0_12, .int .i64 a0_13, .int .i64 a0_14, .int .i64 a0_15] 24 (0, 0)) from (by rw [hgw_]; refine blk_far ?_ NB598_619.out _; (with_reducible repeat (first | refine blk_drewN ?_ _ | refine blk_drew ?_ | refine blk_alloc ?_ _ | refine blk_far ?_ NB598_619.out _)); exact BK598.out)); have m1_ := Aside0.mk (show w24f.heap[gb619]? = some (.cells #[.int .i64 t602, .bool t603, .bool t604, .bool t605, .bool false, .bool false, .bool false, .int .i64 0, .int .u64 0, .int .i64 0, .int .u64 0, .int .i64 0, .int .i64 0, .int .i64 0, .int .i64 0, .int .i64 0] 24 (0, 0)) from (by rw [hgw_]; exact put16_0_4 (by (with_reducible repeat (first | refine blk_drewN ?_ _ | refine blk_drew ?_ | refine blk_alloc ?_ _)); exact BK619.out))); have mb_ := Aside0.mk (show Below w.heap.size w w24f from (by rw [hgw_]; exact (by repeat (first | (with_reducible first | exact HB.out | apply below_alloc | apply pw_below_drewN | apply below_drew1 | refine below_set ?_ GE598.out | refine below_set ?_ GE619.out) | exact HB.out)))); clear BK598; have BK598 := m0_; clear m0_; clear BK619; have BK619 := m1_; clear m1_; clear HB; have HB := mb_; clear mb_; clear hgw_; have hcf598_0 : w24f.cell? ⟨gb598, 0, none⟩ = some (.int .i64 a0_0) := (blk_cell BK598.out 0).trans rfl; have hcf598_1 : w24f.cell? ⟨gb598, 1, none⟩ = some (.bool a0_1) := (blk_cell BK598.out 1).trans rfl; have hcf598_2 : w24f.cell? ⟨gb598, 2, none⟩ = some (.bool a0_2) := (blk_cell BK598.out 2).trans rfl; have hcf598_3 : w24f.cell? ⟨gb598, 3, none⟩ = some (.bool a0_3) := (blk_cell BK598.out 3).trans rfl; have hcf598_4 : w24f.cell? ⟨gb598, 4, none⟩ = some (.bool a0_4) := (blk_cell BK598.out 4).trans rfl; have hcf598_5 : w24f.cell? ⟨gb598, 5, none⟩ = some (.bool a0_5) := (blk_cell BK598.out 5).trans rfl; have hcf598_6 : w24f.cell? ⟨gb598, 6, none⟩ = some (.bool a0_6) := (blk_cell BK598.out 6).trans rfl; have hcf598_7 : w24f.cell? ⟨gb598, 7, none⟩ = some (.int .i64 a0_7) := (blk_cell BK598.out 7).trans rfl; have hcf598_8 : w24f.cell? ⟨gb598, 8, none⟩ = some (.int .u64 a0_8) := (blk_cell BK598.out 8).trans rfl; have hcf598_9 : w24f.cell? ⟨gb598, 9, none⟩ = some (.int .i64 a0_9) := (blk_cell BK598.out 9).trans rfl; have hcf598_10 : w24f.cell? ⟨gb598, 10, none⟩ = some (.int .u64 a0_10) := (blk_cell BK598.out 10).trans rfl; have hcf598_11 : w24f.cell? ⟨gb598, 11, none⟩ = some (.int .i64 a0_11) := (blk_cell BK598.out 11).trans rfl; have hcf598_12 : w24f.cell? ⟨gb598, 12, none⟩ = some (.int .i64 a0_12) := (blk_cell BK598.out 12).trans rfl; have hcf598_13 : w24f.cell? ⟨gb598, 13, none⟩ = some (.int .i64 a0_13) := (blk_cell BK598.out 13).trans rfl; have hcf598_14 : w24f.cell? ⟨gb598, 14, none⟩ = some (.int .i64 a0_14) := (blk_cell BK598.out 14).trans rfl; have hcf598_15 : w24f.cell? ⟨gb598, 15, none⟩ = some (.int .i64 a0_15) := (blk_cell BK598.out 15).trans rfl; have hff598_0 := blk_frozen BK598.out 0; have hff598_1 := blk_frozen BK598.out 1; have hff598_2 := blk_frozen BK598.out 2; have hff598_3 := blk_frozen BK598.out 3; have hff598_4 := blk_frozen BK598.out 4; have hff598_5 := blk_frozen BK598.out 5; have hff598_6 := blk_frozen BK598.out 6; have hff598_7 := blk_frozen BK598.out 7; have hff598_8 := blk_frozen BK598.out 8; have hff598_9 := blk_frozen BK598.out 9; have hff598_10 := blk_frozen BK598.out 10; have hff598_11 := blk_frozen BK598.out 11; have hff598_12 := blk_frozen BK598.out 12; have hff598_13 := blk_frozen BK598.out 13; have hff598_14 := blk_frozen BK598.out 14; have hff598_15 := blk_frozen BK598.out 15; have hcf619_0 : w24f.cell? ⟨gb619, 0, none⟩ = some (.int .i64 t602) := (blk_cell BK619.out 0).trans rfl; have hcf619_1 : w24f.cell? ⟨gb619, 1, none⟩ = some (.bool t603) := (blk_cell BK619.out 1).trans rfl; have hcf619_2 : w24f.cell? ⟨gb619, 2, none⟩ = some (.bool t604) := (blk_cell BK619.out 2).trans rfl; have hcf619_3 : w24f.cell? ⟨gb619, 3, none⟩ = some (.bool t605) := (blk_cell BK619.out 3).trans rfl; have hcf619_4 : w24f.cell? ⟨gb619, 4, none⟩ = some (.bool false) := (blk_cell BK619.out 4).trans rfl; have hcf619_5 : w24f.cell? ⟨gb619, 5, none⟩ = some (.bool false) := (blk_cell BK619.out 5).trans rfl; have hcf619_6 : w24f.cell? ⟨gb619, 6, none⟩ = some (.bool false) := (blk_cell BK619.out 6).trans rfl; have hcf619_7 : w24f.cell? ⟨gb619, 7, none⟩ = some (.int .i64 0) := (blk_cell BK619.out 7).trans rfl; have hcf619_8 : w24f.cell? ⟨gb619, 8, none⟩ = some (.int .u64 0) := (blk_cell BK619.out 8).trans rfl; have hcf619_9 : w24f.cell? ⟨gb619, 9, none⟩ = some (.int .i64 0) := (blk_cell BK619.out 9).trans rfl; have hcf619_10 : w24f.cell? ⟨gb619, 10, none⟩ = some (.int .u64 0) := (blk_cell BK619.out 10).trans rfl; have hcf619_11 : w24f.cell? ⟨gb619, 11, none⟩ = some (.int .i64 0) := (blk_cell BK619.out 11).trans rfl; have hcf619_12 : w24f.cell? ⟨gb619, 12, none⟩ = some (.int .i64 0) := (blk_cell BK619.out 12).trans rfl; have hcf619_13 : w24f.cell? ⟨gb619, 13, none⟩ = some (.int .i64 0) := (blk_cell BK619.out 13).trans rfl; have hcf619_14 : w24f.cell? ⟨gb619, 14, none⟩ = some (.int .i64 0) := (blk_cell BK619.out 14).trans rfl; have hcf619_15 : w24f.cell? ⟨gb619, 15, none⟩ = some (.int .i64 0) := (blk_cell BK619.out 15).trans rfl; have hff619_0 := blk_frozen BK619.out 0; have hff619_1 := blk_frozen BK619.out 1; have hff619_2 := blk_frozen BK619.out 2; have hff619_3 := blk_frozen BK619.out 3; have hff619_4 := blk_frozen BK619.out 4; have hff619_5 := blk_frozen BK619.out 5; have hff619_6 := blk_frozen BK619.out 6; have hff619_7 := blk_frozen BK619.out 7; have hff619_8 := blk_frozen BK619.out 8; have hff619_9 := blk_frozen BK619.out 9; have hff619_10 := blk_frozen BK619.out 10; have hff619_11 := blk_frozen BK619.out 11; have hff619_12 := blk_frozen BK619.out 12; have hff619_13 := blk_frozen BK619.out 13; have hff619_14 := blk_frozen BK619.out 14; have hff619_15 := blk_frozen BK619.out 15) | (go_at_call 10; (with_reducible refine (gangwaylaw09_fixed.calls kj10  t620 _ A22.out).mono ?_); rintro e w27 ⟨rfl, hb⟩; have n0_ := Aside0.mk (blk_below (g := gb598) (o := .cells #[.int .i64 a0_0, .bool a0_1, .bool a0_2, .bool a0_3, .bool a0_4, .bool a0_5, .bool a0_6, .int .i64 a0_7, .int .u64 a0_8, .int .i64 a0_9, .int .u64 a0_10, .int .i64 a0_11, .int .i64 a0_12, .int .i64 a0_13, .int .i64 a0_14, .int .i64 a0_15] 24 (0, 0)) (by (with_reducible repeat (first | refine blk_drewN ?_ _ | refine blk_drew ?_ | refine blk_alloc ?_ _ | refine blk_far ?_ NB598_619.out _)); exact BK598.out) hb); have n1_ := Aside0.mk (blk_below (g := gb619) (o := .cells #[.int .i64 t602, .bool t603, .bool t604, .bool t605, .bool t606, .bool t607, .bool t608, .int .i64 t609, .int .u64 t610, .int .i64 t611, .int .u64 t612, .int .i64 t613, .int .i64 t614, .int .i64 t615, .int .i64 t616, .int .i64 t617] 24 (0, 0)) (by (with_reducible repeat (first | refine blk_drewN ?_ _ | refine blk_drew ?_ | refine blk_alloc ?_ _)); exact put16_4_12 (by (with_reducible repeat (first | refine blk_drewN ?_ _ | refine blk_drew ?_ | refine blk_alloc ?_ _)); exact BK619.out)) hb); have n2_ := Aside0.mk (below_step (by repeat (first | (with_reducible first | exact HB.out | apply below_alloc | apply pw_below_drewN | apply below_drew1 | refine below_set ?_ GE598.out | refine below_set ?_ GE619.out) | exact HB.out)) hb); clear BK598; clear BK619; clear HB; have BK598 := n0_; have BK619 := n1_; have HB := n2_; clear n0_ n1_ n2_; obtain ⟨hcy3_598_0, hcy3_598_1, hcy3_598_2, hcy3_598_3, hcy3_598_4, hcy3_598_5, hcy3_598_6, hcy3_598_7, hcy3_598_8, hcy3_598_9, hcy3_598_10, hcy3_598_11, hcy3_598_12, hcy3_598_13, hcy3_598_14, hcy3_598_15⟩ := cells16 BK598.out; (try clear hb); (try clear hb2); (try clear hk); (try clear hi)))
            go_ret
            exact ⟨by first | rfl | (simp [errW_none, errW_some] <;> rfl) | (simp only [← hji16]; first | rfl | (simp [errW_none, errW_some] <;> rfl)) | (simp [*, errW_none, errW_some] <;> rfl) | (simp [*, IntKind.wrap_u32]; done) | (simp_all [IntKind.wrap_u32]; done), by repeat (first | (with_reducible first | exact HB.out | apply below_alloc | apply pw_below_drewN | apply below_drew1 | refine below_set ?_ GE598.out | refine below_set ?_ GE619.out) | exact HB.out)⟩
           ·rw [if_neg c21] at H
            exact absurd H (by simp)
          ·rw [if_neg c20] at H
           exact absurd H (by simp)
         ·rw [if_neg c18] at H
          exact absurd H (by simp)
        ·rw [if_neg c17] at H
         exact absurd H (by simp)
      ·rw [if_neg c14] at H
       exact absurd H (by simp)
 ·rw [if_neg c4] at H
  have c4b0 : (t600 == 0) = false := beq_eq_false_iff_ne.mpr c4
  have c4b1 : (t600 != 0) = true := bne_iff_ne.mpr c4
  by_cases c28 : t599.toList = ([] : List UInt8)
  ·rw [if_pos c28] at H
   have c28b0 : (t599.toList == ([] : List UInt8)) = true := beq_iff_eq.mpr c28
   have c28b1 : (t599.toList != ([] : List UInt8)) = false := bne_eq_false_iff_eq.mpr c28
   clear c28
   replace H := Option.bind_eq_some_iff.mp H
   obtain ⟨t601, A290, H⟩ := H
   replace H : (some t601) = some r := H
   have A29 := Aside0.mk A290
   clear A290
   obtain rfl := Option.some.inj H
   go_enter Tryd.func7, Tryd.ntmps7
   go_wp2_with (first | ((with_reducible refine gate_st (ty := 24) rfl ?_); (try (refine gate_guard (by rfl) ?_; dsimp only)); refine store16 rfl rfl rfl rfl rfl (by repeat (first | (with_reducible refine blk_drewN ?_ _) | (with_reducible refine blk_drew ?_) | (with_reducible refine blk_alloc ?_ _) | (with_reducible refine blk_far ?_ (by assumption) _) | (first | with_reducible exact BK598.out | with_reducible exact BK619.out))) (by kernel_rfl) rfl ?_) | ((with_reducible refine gate_ld (ty := 24) rfl ?_); (try (refine gate_guard (by rfl) ?_; dsimp only)); refine wpList_load_row rfl _ _ rfl _ rfl _ _ _ _ (by repeat (first | ((with_reducible refine gate_row16 ?_); with_reducible exact put16_0_16 (by repeat (first | (with_reducible refine blk_drewN ?_ _) | (with_reducible refine blk_drew ?_) | (with_reducible refine blk_alloc ?_ _) | (first | with_reducible exact BK598.out | with_reducible exact BK619.out)))) | (with_reducible refine blk_far ?_ (by assumption) _) | (with_reducible refine blk_set ?_ _ _) | (with_reducible refine blk_drewN ?_ _) | (with_reducible refine blk_drew ?_) | (with_reducible refine blk_alloc ?_ _) | (first | with_reducible exact BK598.out | with_reducible exact BK619.out))) Tryd.underlying24 rfl (by kernel_rfl) ?_; (try simp only [List.setIfInBounds_toArray, List.set_cons_zero, List.set_cons_succ])) | ((with_reducible refine gate_eql (ty := 24) rfl ?_); (try (refine gate_guard (by rfl) ?_; dsimp only)); refine eql24 rfl rfl rfl rfl true (by first | exact c21b0 | (simpa using c21b0)) ?_) | ((with_reducible refine gate_eql (ty := 24) rfl ?_); (try (refine gate_guard (by rfl) ?_; dsimp only)); refine eql24 rfl rfl rfl rfl false (by first | exact c21b0 | (simpa using c21b0)) ?_) | ((with_reducible refine gate_dst (N := 2) rfl ?_); refine box_event ?hg (N := 2) ?hd (cs := #[.int .i64 a0_0, .bool a0_1, .bool a0_2, .bool a0_3, .bool a0_4, .bool a0_5, .bool a0_6, .int .i64 a0_7, .int .u64 a0_8, .int .i64 a0_9, .int .u64 a0_10, .int .i64 a0_11, .int .i64 a0_12, .int .i64 a0_13, .int .i64 a0_14, .int .i64 a0_15]) (t := 24) ?hr ?_; (case hd => rfl); (case hg => rfl); (case hr => first | (go_simp; done) | (go_simp; rfl)); intro gb598 hg w30 hbox hb; have n0_ := Aside0.mk (below_step (by repeat (first | (with_reducible first | exact HB.out | apply below_alloc | apply pw_below_drewN | apply below_drew1) | exact HB.out)) hb); have n1_ := Aside0.mk (hbox); have n2_ := Aside0.mk ((by rw [hg]; exact (below_size (by repeat (first | (with_reducible first | exact HB.out | apply below_alloc | apply pw_below_drewN | apply below_drew1) | exact HB.out))) : w.heap.size ≤ gb598)); have n3_ := Aside0.mk ((by rw [hg]; exact (below_size (by repeat (first | (with_reducible first | exact HB.out | apply below_alloc | apply pw_below_drewN | apply below_drew1) | exact HB.out))) : w.heap.size ≤ gb598)); clear HB; have HB := n0_; have BK598 := n1_; have GW598 := n2_; have GE598 := n3_; clear n0_ n1_ n2_ n3_; clear hb hbox hg; obtain ⟨hcz31_0, hcz31_1, hcz31_2, hcz31_3, hcz31_4, hcz31_5, hcz31_6, hcz31_7, hcz31_8, hcz31_9, hcz31_10, hcz31_11, hcz31_12, hcz31_13, hcz31_14, hcz31_15⟩ := cells16 BK598.out; obtain ⟨hfz31_0, hfz31_1, hfz31_2, hfz31_3, hfz31_4, hfz31_5, hfz31_6, hfz31_7, hfz31_8, hfz31_9, hfz31_10, hfz31_11, hfz31_12, hfz31_13, hfz31_14, hfz31_15⟩ := frozen16 BK598.out) | ((with_reducible refine gate_callee (f := 8) rfl ?_); refine goesL_ (some 12) rfl rfl Tryd.func8 (by kernel_rfl) rfl #[.agg #[.int .i64 a0_0, .bool a0_1, .bool a0_2, .bool a0_3, .bool a0_4, .bool a0_5, .bool a0_6, .int .i64 a0_7, .int .u64 a0_8, .int .i64 a0_9, .int .u64 a0_10, .int .i64 a0_11, .int .i64 a0_12, .int .i64 a0_13, .int .i64 a0_14, .int .i64 a0_15]] rfl (by (try simp only [List.map_toArray, List.map_cons, List.map_nil]); first | done | rfl | (simp only [List.length_drop, List.length_take]; rfl)) ?_; (with_reducible refine (bpdu_Build.calls k a0_0 a0_1 a0_2 a0_3 a0_4 a0_5 a0_6 a0_7 a0_8 a0_9 a0_10 a0_11 a0_12 a0_13 a0_14 a0_15 t599 t600 _ A3.out).mono ?_); rintro e w32 ⟨rfl, hb⟩; refine ⟨_, rfl, ?_⟩; have n0_ := Aside0.mk (blk_below (g := gb598) (by (with_reducible repeat (first | refine blk_drewN ?_ _ | refine blk_drew ?_ | refine blk_alloc ?_ _)); exact BK598.out) hb); have n1_ := Aside0.mk (below_step (by repeat (first | (with_reducible first | exact HB.out | apply below_alloc | apply pw_below_drewN | apply below_drew1 | refine below_set ?_ GE598.out) | exact HB.out)) hb); clear BK598; clear HB; have BK598 := n0_; have HB := n1_; clear n0_ n1_; obtain ⟨hcy1_598_0, hcy1_598_1, hcy1_598_2, hcy1_598_3, hcy1_598_4, hcy1_598_5, hcy1_598_6, hcy1_598_7, hcy1_598_8, hcy1_598_9, hcy1_598_10, hcy1_598_11, hcy1_598_12, hcy1_598_13, hcy1_598_14, hcy1_598_15⟩ := cells16 BK598.out; (try clear hb); (try clear hb2); (try clear hk); (try clear hi)) | (go_at_call 10; (with_reducible refine (gangwaylaw09_fixed.calls k  t601 _ A29.out).mono ?_); rintro e w33 ⟨rfl, hb⟩; have n0_ := Aside0.mk (blk_below (g := gb598) (by (with_reducible repeat (first | refine blk_drewN ?_ _ | refine blk_drew ?_ | refine blk_alloc ?_ _)); exact BK598.out) hb); have n1_ := Aside0.mk (below_step (by repeat (first | (with_reducible first | exact HB.out | apply below_alloc | apply pw_below_drewN | apply below_drew1 | refine below_set ?_ GE598.out) | exact HB.out)) hb); clear BK598; clear HB; have BK598 := n0_; have HB := n1_; clear n0_ n1_; obtain ⟨hcy2_598_0, hcy2_598_1, hcy2_598_2, hcy2_598_3, hcy2_598_4, hcy2_598_5, hcy2_598_6, hcy2_598_7, hcy2_598_8, hcy2_598_9, hcy2_598_10, hcy2_598_11, hcy2_598_12, hcy2_598_13, hcy2_598_14, hcy2_598_15⟩ := cells16 BK598.out; (try clear hb); (try clear hb2); (try clear hk); (try clear hi)))
   go_ret
   exact ⟨by first | rfl | (simp [errW_none, errW_some] <;> rfl) | (simp [*, errW_none, errW_some] <;> rfl) | (simp [*, IntKind.wrap_u32]; done) | (simp_all [IntKind.wrap_u32]; done), by repeat (first | (with_reducible first | exact HB.out | apply below_alloc | apply pw_below_drewN | apply below_drew1 | refine below_set ?_ GE598.out) | exact HB.out)⟩
  ·rw [if_neg c28] at H
   exact absurd H (by simp)

end Go.Proofs.YtbfjlhjfpmgplaaDoor.P
