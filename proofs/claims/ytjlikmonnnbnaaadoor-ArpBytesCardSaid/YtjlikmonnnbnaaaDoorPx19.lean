-- Written by wip/hprint.py (this session's program) through the kit's print program; hand contracts are marked 'by hand'.
import Derived.Test.YtjlikmonnnbnaaaDoorPx0
import Derived.Test.YtjlikmonnnbnaaaDoorPx4
import Derived.Test.YtjlikmonnnbnaaaDoorPx7
import Derived.Test.YtjlikmonnnbnaaaDoorPx16
namespace Go.Proofs.YtjlikmonnnbnaaaDoor.P
open Go.RowKit Go.Proofs.YtjlikmonnnbnaaaDoorW.PrintWords Go.Proofs.YtjlikmonnnbnaaaDoorW.PrintLast Go.Proofs.YtjlikmonnnbnaaaDoorW.PrintMore
attribute [local go_sem] max2_int min2_int max_two min_two max_three min_three max_four min_four   -- for this text's walks alone
set_option linter.unusedVariables false
set_option linter.unusedSimpArgs false

/-! ### gangwaylaw05_ArpBytes: function 5 -/
def gangwaylaw05_ArpBytes.f (k : Nat) (a0_0 : Int) (a0_1 : Int) (a0_2 : Int) (a0_3 : Int) (a0_4 : Int) : Option (Bool) := (arp_Build.f k a0_0 a0_1 a0_2 a0_3 a0_4).bind fun bt252 => (if bt252.2 = 0 then ((arp_Build.f k a0_0 a0_1 a0_4 a0_3 a0_2).bind fun bt255 => (if (bt252.1.size : Int) = 28 then (if bt255.2 = 0 then (if (bt255.1.size : Int) = 28 then (if 0 ≤ 6 then (if 6 ≤ (bt252.1.size : Int) then (if (bt252.1.extract 0 6).toList = ([0, 1, 8, 0, 6, 4] : List UInt8) then (if 14 ≤ 18 then (if 18 ≤ (bt252.1.size : Int) then (if 24 ≤ 28 then (if 28 ≤ (bt255.1.size : Int) then (if (bt252.1.extract 14 18).toList = (bt255.1.extract 24 28).toList then (if 28 ≤ (bt252.1.size : Int) then (if 18 ≤ (bt255.1.size : Int) then (if (bt252.1.extract 24 28).toList = (bt255.1.extract 14 18).toList then (if 8 ≤ 14 then (if 14 ≤ (bt252.1.size : Int) then (if 14 ≤ (bt255.1.size : Int) then (if (bt252.1.extract 8 14).toList = (bt255.1.extract 8 14).toList then ((gangwaylaw05_fixed.f k).bind fun t257 => (some t257)) else (none)) else (none)) else (none)) else (none)) else (none)) else (none)) else (none)) else (none)) else (none)) else (none)) else (none)) else (none)) else (none)) else (none)) else (none)) else (none)) else (none)) else (none))) else (if bt252.1.toList = ([] : List UInt8) then ((arp_Check.f a0_0 a0_1 a0_2 a0_3 a0_4).bind fun t258 => (if t258 = bt252.2 then ((gangwaylaw05_fixed.f k).bind fun t259 => (some t259)) else (none))) else (none)))
theorem gangwaylaw05_ArpBytes.mono : ∀ a0 a1 a2 a3 a4 k, LeO (gangwaylaw05_ArpBytes.f k a0 a1 a2 a3 a4) (gangwaylaw05_ArpBytes.f (k + 1) a0 a1 a2 a3 a4) := by
  intro a0 a1 a2 a3 a4 k
  unfold gangwaylaw05_ArpBytes.f
  repeat' first
      | (with_reducible exact arp_Build.mono _ _ _ _ _ _)
      | (with_reducible exact gangwaylaw05_fixed.mono _)
      | (with_reducible exact LeO.refl _)
      | (with_reducible exact LeO.none _)
      | (with_reducible refine LeO.ite ?_ ?_)
      | (with_reducible refine LeO.bind ?_ (fun _ => ?_))
      | exact arp_Build.mono _ _ _ _ _ _
      | exact gangwaylaw05_fixed.mono _
      | exact LeO.none _
      | refine LeO.ite ?_ ?_
      | refine LeO.bind ?_ (fun _ => ?_)
def gangwaylaw05_ArpBytes.T8 : Bool × List (List Nat × List Nat) := (true, [([], []), ([0], [0]), ([1], [1]), ([2], [2]), ([3], [3]), ([4, 3], [3, 4]), ([3, 5], [3, 5]), ([6, 3], [6]), ([7], [7]), ([8, 7], [7, 8]), ([9, 7], [7, 9]), ([7, 10], [7, 10]), ([11, 7], [11]), ([12], [12]), ([13, 12], [12, 13]), ([14, 12], [12, 14]), ([12, 15], [12, 15]), ([16, 12], [16]), ([17], [17]), ([18, 17], [17, 18]), ([17], [17]), ([20, 17], [17, 20]), ([19, 21, 17], [17, 19, 21]), ([17, 22], [17, 22]), ([23, 17], [23]), ([24], [24]), ([25, 24], [24, 25]), ([24], [24]), ([27, 24], [24, 27]), ([26, 28, 24], [24, 26, 28]), ([24, 29], [24, 29]), ([30, 24], [30]), ([31], [31]), ([32, 31], [31, 32]), ([31], [31]), ([34, 31], [31, 34]), ([33, 35, 31], [31, 33, 35]), ([31, 36], [31, 36]), ([37, 31], [37]), ([38, 38], [38]), ([38, 39], [38, 39]), ([40, 39, 0, 1, 2, 3, 4, 5, 6, 7, 8, 9, 10, 11, 12, 13, 14, 15, 16, 17, 18, 19, 20, 21, 22, 23, 24, 25, 26, 27, 28, 29, 30, 31, 32, 33, 34, 35, 36, 37, 38, 39, 40], [40])])
def gangwaylaw05_ArpBytes.B8 : List Nat := [0, 1, 3, 7, 15, 31, 63, 127, 255, 511, 1023, 2047, 4095, 8191, 16383, 32767, 65535, 131071, 262143, 524287, 262143, 1310719, 4194303, 8388607, 16777215, 33554431, 67108863, 33554431, 167772159, 536870911, 1073741823, 2147483647, 4294967295, 8589934591, 4294967295, 21474836479, 68719476735, 137438953471, 274877906943, 549755813887, 1099511627775, 2199023255551]
theorem gangwaylaw05_ArpBytes.tab8 : rtab .any (opsOf Tryd.f5 8) = gangwaylaw05_ArpBytes.T8 := by kernel_rfl
theorem gangwaylaw05_ArpBytes.bits8 : waitsOk gangwaylaw05_ArpBytes.T8.2 gangwaylaw05_ArpBytes.B8 = true := by kernel_rfl
set_option maxHeartbeats 8000000 in
set_option maxRecDepth 100000 in
theorem gangwaylaw05_ArpBytes.calls (k : Nat) (a0_0 : Int) (a0_1 : Int) (a0_2 : Int) (a0_3 : Int) (a0_4 : Int) (r : Bool) (w : World) (h : gangwaylaw05_ArpBytes.f k a0_0 a0_1 a0_2 a0_3 a0_4 = some r) :
    Calls Tryd.prog 5 #[.agg #[.int .i64 a0_0, .int .u64 a0_1, .int .u32 a0_2, .int .u64 a0_3, .int .u32 a0_4]] w fun e w' => e = .returned (.bool r) ∧ Below w.heap.size w w' := by
  have hu25 := Tryd.underlying25
  have HB := Aside0.mk (Below.refl w.heap.size w)
  have H : ((arp_Build.f k a0_0 a0_1 a0_2 a0_3 a0_4).bind fun bt252 => (if bt252.2 = 0 then ((arp_Build.f k a0_0 a0_1 a0_4 a0_3 a0_2).bind fun bt255 => (if (bt252.1.size : Int) = 28 then (if bt255.2 = 0 then (if (bt255.1.size : Int) = 28 then (if 0 ≤ 6 then (if 6 ≤ (bt252.1.size : Int) then (if (bt252.1.extract 0 6).toList = ([0, 1, 8, 0, 6, 4] : List UInt8) then (if 14 ≤ 18 then (if 18 ≤ (bt252.1.size : Int) then (if 24 ≤ 28 then (if 28 ≤ (bt255.1.size : Int) then (if (bt252.1.extract 14 18).toList = (bt255.1.extract 24 28).toList then (if 28 ≤ (bt252.1.size : Int) then (if 18 ≤ (bt255.1.size : Int) then (if (bt252.1.extract 24 28).toList = (bt255.1.extract 14 18).toList then (if 8 ≤ 14 then (if 14 ≤ (bt252.1.size : Int) then (if 14 ≤ (bt255.1.size : Int) then (if (bt252.1.extract 8 14).toList = (bt255.1.extract 8 14).toList then ((gangwaylaw05_fixed.f k).bind fun t257 => (some t257)) else (none)) else (none)) else (none)) else (none)) else (none)) else (none)) else (none)) else (none)) else (none)) else (none)) else (none)) else (none)) else (none)) else (none)) else (none)) else (none)) else (none)) else (none))) else (if bt252.1.toList = ([] : List UInt8) then ((arp_Check.f a0_0 a0_1 a0_2 a0_3 a0_4).bind fun t258 => (if t258 = bt252.2 then ((gangwaylaw05_fixed.f k).bind fun t259 => (some t259)) else (none))) else (none)))) = some r := h
  clear h
  replace H := Option.bind_eq_some_iff.mp H
  obtain ⟨⟨t252, t253⟩, A20, H⟩ := H
  replace H : (if t253 = 0 then ((arp_Build.f k a0_0 a0_1 a0_4 a0_3 a0_2).bind fun bt255 => (if (t252.size : Int) = 28 then (if bt255.2 = 0 then (if (bt255.1.size : Int) = 28 then (if 0 ≤ 6 then (if 6 ≤ (t252.size : Int) then (if (t252.extract 0 6).toList = ([0, 1, 8, 0, 6, 4] : List UInt8) then (if 14 ≤ 18 then (if 18 ≤ (t252.size : Int) then (if 24 ≤ 28 then (if 28 ≤ (bt255.1.size : Int) then (if (t252.extract 14 18).toList = (bt255.1.extract 24 28).toList then (if 28 ≤ (t252.size : Int) then (if 18 ≤ (bt255.1.size : Int) then (if (t252.extract 24 28).toList = (bt255.1.extract 14 18).toList then (if 8 ≤ 14 then (if 14 ≤ (t252.size : Int) then (if 14 ≤ (bt255.1.size : Int) then (if (t252.extract 8 14).toList = (bt255.1.extract 8 14).toList then ((gangwaylaw05_fixed.f k).bind fun t257 => (some t257)) else (none)) else (none)) else (none)) else (none)) else (none)) else (none)) else (none)) else (none)) else (none)) else (none)) else (none)) else (none)) else (none)) else (none)) else (none)) else (none)) else (none)) else (none))) else (if t252.toList = ([] : List UInt8) then ((arp_Check.f a0_0 a0_1 a0_2 a0_3 a0_4).bind fun t258 => (if t258 = t253 then ((gangwaylaw05_fixed.f k).bind fun t259 => (some t259)) else (none))) else (none))) = some r := H
  have A2 := Aside0.mk A20
  clear A20
  by_cases c3 : t253 = 0
  · rw [if_pos c3] at H
    have c3b0 : (t253 == 0) = true := beq_iff_eq.mpr c3
    have c3b1 : (t253 != 0) = false := bne_eq_false_iff_eq.mpr c3
    clear c3
    replace H := Option.bind_eq_some_iff.mp H
    obtain ⟨⟨t255, t256⟩, A40, H⟩ := H
    replace H : (if (t252.size : Int) = 28 then (if t256 = 0 then (if (t255.size : Int) = 28 then (if 0 ≤ 6 then (if 6 ≤ (t252.size : Int) then (if (t252.extract 0 6).toList = ([0, 1, 8, 0, 6, 4] : List UInt8) then (if 14 ≤ 18 then (if 18 ≤ (t252.size : Int) then (if 24 ≤ 28 then (if 28 ≤ (t255.size : Int) then (if (t252.extract 14 18).toList = (t255.extract 24 28).toList then (if 28 ≤ (t252.size : Int) then (if 18 ≤ (t255.size : Int) then (if (t252.extract 24 28).toList = (t255.extract 14 18).toList then (if 8 ≤ 14 then (if 14 ≤ (t252.size : Int) then (if 14 ≤ (t255.size : Int) then (if (t252.extract 8 14).toList = (t255.extract 8 14).toList then ((gangwaylaw05_fixed.f k).bind fun t257 => (some t257)) else (none)) else (none)) else (none)) else (none)) else (none)) else (none)) else (none)) else (none)) else (none)) else (none)) else (none)) else (none)) else (none)) else (none)) else (none)) else (none)) else (none)) else (none)) = some r := H
    have A4 := Aside0.mk A40
    clear A40
    by_cases c5 : (t252.size : Int) = 28
    · rw [if_pos c5] at H
      have c5b0 : ((t252.size : Int) == 28) = true := beq_iff_eq.mpr c5
      have c5b1 : ((t252.size : Int) != 28) = false := bne_eq_false_iff_eq.mpr c5
      clear c5
      by_cases c6 : t256 = 0
      · rw [if_pos c6] at H
        have c6b0 : (t256 == 0) = true := beq_iff_eq.mpr c6
        have c6b1 : (t256 != 0) = false := bne_eq_false_iff_eq.mpr c6
        clear c6
        by_cases c7 : (t255.size : Int) = 28
        · rw [if_pos c7] at H
          have c7b0 : ((t255.size : Int) == 28) = true := beq_iff_eq.mpr c7
          have c7b1 : ((t255.size : Int) != 28) = false := bne_eq_false_iff_eq.mpr c7
          clear c7
          by_cases c8 : 0 ≤ 6
          · rw [if_pos c8] at H
            have c8b0 := eq_true c8
            have c8b1 : decide (0 ≤ 6) = true := decide_eq_true c8
            clear c8
            by_cases c9 : 6 ≤ (t252.size : Int)
            · rw [if_pos c9] at H
              have c9b0 := eq_true c9
              have c9b1 : decide (6 ≤ (t252.size : Int)) = true := decide_eq_true c9
              clear c9
              by_cases c10 : (t252.extract 0 6).toList = ([0, 1, 8, 0, 6, 4] : List UInt8)
              · rw [if_pos c10] at H
                have c10b0 : ((t252.extract 0 6).toList == ([0, 1, 8, 0, 6, 4] : List UInt8)) = true := beq_iff_eq.mpr c10
                have c10b1 : ((t252.extract 0 6).toList != ([0, 1, 8, 0, 6, 4] : List UInt8)) = false := bne_eq_false_iff_eq.mpr c10
                clear c10
                by_cases c11 : 14 ≤ 18
                · rw [if_pos c11] at H
                  have c11b0 := eq_true c11
                  have c11b1 : decide (14 ≤ 18) = true := decide_eq_true c11
                  clear c11
                  by_cases c12 : 18 ≤ (t252.size : Int)
                  · rw [if_pos c12] at H
                    have c12b0 := eq_true c12
                    have c12b1 : decide (18 ≤ (t252.size : Int)) = true := decide_eq_true c12
                    clear c12
                    by_cases c13 : 24 ≤ 28
                    · rw [if_pos c13] at H
                      have c13b0 := eq_true c13
                      have c13b1 : decide (24 ≤ 28) = true := decide_eq_true c13
                      clear c13
                      by_cases c14 : 28 ≤ (t255.size : Int)
                      · rw [if_pos c14] at H
                        have c14b0 := eq_true c14
                        have c14b1 : decide (28 ≤ (t255.size : Int)) = true := decide_eq_true c14
                        clear c14
                        by_cases c15 : (t252.extract 14 18).toList = (t255.extract 24 28).toList
                        · rw [if_pos c15] at H
                          have c15b0 : ((t252.extract 14 18).toList == (t255.extract 24 28).toList) = true := beq_iff_eq.mpr c15
                          have c15b1 : ((t252.extract 14 18).toList != (t255.extract 24 28).toList) = false := bne_eq_false_iff_eq.mpr c15
                          clear c15
                          have c16b0 := eq_true (of_decide_eq_true (by first | (with_reducible assumption) | assumption) : 24 ≤ 28)
                          by_cases c17 : 28 ≤ (t252.size : Int)
                          · rw [if_pos c17] at H
                            have c17b0 := eq_true c17
                            have c17b1 : decide (28 ≤ (t252.size : Int)) = true := decide_eq_true c17
                            clear c17
                            have c18b0 := eq_true (of_decide_eq_true (by first | (with_reducible assumption) | assumption) : 14 ≤ 18)
                            by_cases c19 : 18 ≤ (t255.size : Int)
                            · rw [if_pos c19] at H
                              have c19b0 := eq_true c19
                              have c19b1 : decide (18 ≤ (t255.size : Int)) = true := decide_eq_true c19
                              clear c19
                              by_cases c20 : (t252.extract 24 28).toList = (t255.extract 14 18).toList
                              · rw [if_pos c20] at H
                                have c20b0 : ((t252.extract 24 28).toList == (t255.extract 14 18).toList) = true := beq_iff_eq.mpr c20
                                have c20b1 : ((t252.extract 24 28).toList != (t255.extract 14 18).toList) = false := bne_eq_false_iff_eq.mpr c20
                                clear c20
                                by_cases c21 : 8 ≤ 14
                                · rw [if_pos c21] at H
                                  have c21b0 := eq_true c21
                                  have c21b1 : decide (8 ≤ 14) = true := decide_eq_true c21
                                  clear c21
                                  by_cases c22 : 14 ≤ (t252.size : Int)
                                  · rw [if_pos c22] at H
                                    have c22b0 := eq_true c22
                                    have c22b1 : decide (14 ≤ (t252.size : Int)) = true := decide_eq_true c22
                                    clear c22
                                    have c23b0 := eq_true (of_decide_eq_true (by first | (with_reducible assumption) | assumption) : 8 ≤ 14)
                                    by_cases c24 : 14 ≤ (t255.size : Int)
                                    · rw [if_pos c24] at H
                                      have c24b0 := eq_true c24
                                      have c24b1 : decide (14 ≤ (t255.size : Int)) = true := decide_eq_true c24
                                      clear c24
                                      by_cases c25 : (t252.extract 8 14).toList = (t255.extract 8 14).toList
                                      · rw [if_pos c25] at H
                                        have c25b0 : ((t252.extract 8 14).toList == (t255.extract 8 14).toList) = true := beq_iff_eq.mpr c25
                                        have c25b1 : ((t252.extract 8 14).toList != (t255.extract 8 14).toList) = false := bne_eq_false_iff_eq.mpr c25
                                        clear c25
                                        replace H := Option.bind_eq_some_iff.mp H
                                        obtain ⟨t257, A260, H⟩ := H
                                        replace H : (some t257) = some r := H
                                        have A26 := Aside0.mk A260
                                        clear A260
                                        obtain rfl := Option.some.inj H
                                        go_enter Tryd.func5, Tryd.ntmps5
                                        try go_wp2_with (first | ((with_reducible refine gate_dst (N := 1) rfl ?_); (try (refine gate_guard (by rfl) ?_; dsimp only)); refine box_event ?hg (N := 1) ?hd (cs := #[.int .i64 a0_0, .int .u64 a0_1, .int .u32 a0_2, .int .u64 a0_3, .int .u32 a0_4]) (t := 25) ?hr ?_; (case hd => rfl); (case hg => rfl); (case hr => first | (go_simp; done) | (go_simp; rfl)); intro gb251 hg w27 hbox hb; have n0_ := Aside0.mk (below_step (by repeat (first | (with_reducible first | exact HB.out | apply below_alloc | apply pw_below_drewN | apply below_drew1) | exact HB.out)) hb); have n1_ := Aside0.mk (hbox); have n2_ := Aside0.mk ((by rw [hg]; exact (below_size (by repeat (first | (with_reducible first | exact HB.out | apply below_alloc | apply pw_below_drewN | apply below_drew1) | exact HB.out))) : w.heap.size ≤ gb251)); have n3_ := Aside0.mk ((by rw [hg]; exact (below_size (by repeat (first | (with_reducible first | exact HB.out | apply below_alloc | apply pw_below_drewN | apply below_drew1) | exact HB.out))) : w.heap.size ≤ gb251)); clear HB; have HB := n0_; have BK251 := n1_; have GW251 := n2_; have GE251 := n3_; clear n0_ n1_ n2_ n3_; clear hb hbox hg; have hcz28_0 : w27.cell? ⟨gb251, 0, none⟩ = some (.int .i64 a0_0) := (blk_cell BK251.out 0).trans rfl; have hcz28_1 : w27.cell? ⟨gb251, 1, none⟩ = some (.int .u64 a0_1) := (blk_cell BK251.out 1).trans rfl; have hcz28_2 : w27.cell? ⟨gb251, 2, none⟩ = some (.int .u32 a0_2) := (blk_cell BK251.out 2).trans rfl; have hcz28_3 : w27.cell? ⟨gb251, 3, none⟩ = some (.int .u64 a0_3) := (blk_cell BK251.out 3).trans rfl; have hcz28_4 : w27.cell? ⟨gb251, 4, none⟩ = some (.int .u32 a0_4) := (blk_cell BK251.out 4).trans rfl; have hfz28_0 := blk_frozen BK251.out 0; have hfz28_1 := blk_frozen BK251.out 1; have hfz28_2 := blk_frozen BK251.out 2; have hfz28_3 := blk_frozen BK251.out 3; have hfz28_4 := blk_frozen BK251.out 4) | ((with_reducible refine gate_callee (f := 7) rfl ?_); refine goesL_ (some 10) rfl rfl Tryd.func7 (by kernel_rfl) rfl #[.agg #[.int .i64 a0_0, .int .u64 a0_1, .int .u32 a0_2, .int .u64 a0_3, .int .u32 a0_4]] rfl (by (try simp only [List.map_toArray, List.map_cons, List.map_nil]); first | done | rfl | (simp only [List.length_drop, List.length_take]; rfl)) ?_; (with_reducible refine (arp_Build.calls k a0_0 a0_1 a0_2 a0_3 a0_4 t252 t253 _ A2.out).mono ?_); rintro e w29 ⟨rfl, hb⟩; refine ⟨_, rfl, ?_⟩; have n0_ := Aside0.mk (blk_below (g := gb251) (o := .cells #[.int .i64 a0_0, .int .u64 a0_1, .int .u32 a0_2, .int .u64 a0_3, .int .u32 a0_4] 25 (0, 0)) (by (with_reducible repeat (first | refine blk_drewN ?_ _ | refine blk_drew ?_ | refine blk_alloc ?_ _)); exact BK251.out) hb); have n1_ := Aside0.mk (below_step (by repeat (first | (with_reducible first | exact HB.out | apply below_alloc | apply pw_below_drewN | apply below_drew1 | refine below_set ?_ GE251.out) | exact HB.out)) hb); clear BK251; clear HB; have BK251 := n0_; have HB := n1_; clear n0_ n1_; have hcy1_251_0 := (show World.cell? _ ⟨gb251, 0, none⟩ = some (.int .i64 a0_0) from (blk_cell BK251.out 0).trans rfl); have hcy1_251_1 := (show World.cell? _ ⟨gb251, 1, none⟩ = some (.int .u64 a0_1) from (blk_cell BK251.out 1).trans rfl); have hcy1_251_2 := (show World.cell? _ ⟨gb251, 2, none⟩ = some (.int .u32 a0_2) from (blk_cell BK251.out 2).trans rfl); have hcy1_251_3 := (show World.cell? _ ⟨gb251, 3, none⟩ = some (.int .u64 a0_3) from (blk_cell BK251.out 3).trans rfl); have hcy1_251_4 := (show World.cell? _ ⟨gb251, 4, none⟩ = some (.int .u32 a0_4) from (blk_cell BK251.out 4).trans rfl); (try clear hb); (try clear hb2); (try clear hk); (try clear hi); have hcz30_0 : w29.cell? ⟨gb251, 0, none⟩ = some (.int .i64 a0_0) := (blk_cell BK251.out 0).trans rfl; have hcz30_1 : w29.cell? ⟨gb251, 1, none⟩ = some (.int .u64 a0_1) := (blk_cell BK251.out 1).trans rfl; have hcz30_2 : w29.cell? ⟨gb251, 2, none⟩ = some (.int .u32 a0_2) := (blk_cell BK251.out 2).trans rfl; have hcz30_3 : w29.cell? ⟨gb251, 3, none⟩ = some (.int .u64 a0_3) := (blk_cell BK251.out 3).trans rfl; have hcz30_4 : w29.cell? ⟨gb251, 4, none⟩ = some (.int .u32 a0_4) := (blk_cell BK251.out 4).trans rfl; have hfz30_0 := blk_frozen BK251.out 0; have hfz30_1 := blk_frozen BK251.out 1; have hfz30_2 := blk_frozen BK251.out 2; have hfz30_3 := blk_frozen BK251.out 3; have hfz30_4 := blk_frozen BK251.out 4) | ((with_reducible refine gate_dst (N := 5) rfl ?_); (try (refine gate_guard (by rfl) ?_; dsimp only)); refine box_event ?hg (N := 5) ?hd (cs := #[.int .i64 0, .int .u64 0, .int .u32 0, .int .u64 0, .int .u32 0]) (t := 25) ?hr ?_; (case hd => rfl); (case hg => rfl); (case hr => first | (go_simp; done) | (go_simp; rfl)); intro gb254 hg w31 hbox hb; have n0_ := Aside0.mk (blk_below (g := gb251) (o := .cells #[.int .i64 a0_0, .int .u64 a0_1, .int .u32 a0_2, .int .u64 a0_3, .int .u32 a0_4] 25 (0, 0)) (by (with_reducible repeat (first | refine blk_drewN ?_ _ | refine blk_drew ?_ | refine blk_alloc ?_ _)); exact BK251.out) hb); have n1_ := Aside0.mk (below_step (by repeat (first | (with_reducible first | exact HB.out | apply below_alloc | apply pw_below_drewN | apply below_drew1 | refine below_set ?_ GE251.out) | exact HB.out)) hb); have n2_ := Aside0.mk (hbox); have n3_ := Aside0.mk ((by rw [hg]; exact (below_size (by repeat (first | (with_reducible first | exact HB.out | apply below_alloc | apply pw_below_drewN | apply below_drew1 | refine below_set ?_ GE251.out) | exact HB.out))) : w.heap.size ≤ gb254)); have n4_ := Aside0.mk ((by rw [hg]; exact (below_size (by repeat (first | (with_reducible first | exact HB.out | apply below_alloc | apply pw_below_drewN | apply below_drew1 | refine below_set ?_ GE251.out) | exact HB.out))) : w.heap.size ≤ gb254)); have n5_ := Aside0.mk ((by rw [hg]; exact Nat.ne_of_lt (blk_lt (g := gb251) (o := .cells #[.int .i64 a0_0, .int .u64 a0_1, .int .u32 a0_2, .int .u64 a0_3, .int .u32 a0_4] 25 (0, 0)) (by (with_reducible repeat (first | refine blk_drewN ?_ _ | refine blk_drew ?_ | refine blk_alloc ?_ _)); exact BK251.out)) : gb251 ≠ gb254)); have n6_ := Aside0.mk ((by rw [hg]; exact Nat.ne_of_gt (blk_lt (g := gb251) (o := .cells #[.int .i64 a0_0, .int .u64 a0_1, .int .u32 a0_2, .int .u64 a0_3, .int .u32 a0_4] 25 (0, 0)) (by (with_reducible repeat (first | refine blk_drewN ?_ _ | refine blk_drew ?_ | refine blk_alloc ?_ _)); exact BK251.out)) : gb254 ≠ gb251)); clear BK251; clear HB; have BK251 := n0_; have HB := n1_; have BK254 := n2_; have GW254 := n3_; have GE254 := n4_; have NB251_254 := n5_; have NB254_251 := n6_; clear n0_ n1_ n2_ n3_ n4_ n5_ n6_; have hcy2_251_0 := (show World.cell? _ ⟨gb251, 0, none⟩ = some (.int .i64 a0_0) from (blk_cell BK251.out 0).trans rfl); have hcy2_251_1 := (show World.cell? _ ⟨gb251, 1, none⟩ = some (.int .u64 a0_1) from (blk_cell BK251.out 1).trans rfl); have hcy2_251_2 := (show World.cell? _ ⟨gb251, 2, none⟩ = some (.int .u32 a0_2) from (blk_cell BK251.out 2).trans rfl); have hcy2_251_3 := (show World.cell? _ ⟨gb251, 3, none⟩ = some (.int .u64 a0_3) from (blk_cell BK251.out 3).trans rfl); have hcy2_251_4 := (show World.cell? _ ⟨gb251, 4, none⟩ = some (.int .u32 a0_4) from (blk_cell BK251.out 4).trans rfl); clear hb hbox hg; have hnb32 := NB254_251.out; have hnc32 := NB251_254.out; have hcz33_0 : w31.cell? ⟨gb254, 0, none⟩ = some (.int .i64 0) := (blk_cell BK254.out 0).trans rfl; have hcz33_1 : w31.cell? ⟨gb254, 1, none⟩ = some (.int .u64 0) := (blk_cell BK254.out 1).trans rfl; have hcz33_2 : w31.cell? ⟨gb254, 2, none⟩ = some (.int .u32 0) := (blk_cell BK254.out 2).trans rfl; have hcz33_3 : w31.cell? ⟨gb254, 3, none⟩ = some (.int .u64 0) := (blk_cell BK254.out 3).trans rfl; have hcz33_4 : w31.cell? ⟨gb254, 4, none⟩ = some (.int .u32 0) := (blk_cell BK254.out 4).trans rfl; have hfz33_0 := blk_frozen BK254.out 0; have hfz33_1 := blk_frozen BK254.out 1; have hfz33_2 := blk_frozen BK254.out 2; have hfz33_3 := blk_frozen BK254.out 3; have hfz33_4 := blk_frozen BK254.out 4; have hcz34_0 : w31.cell? ⟨gb251, 0, none⟩ = some (.int .i64 a0_0) := (blk_cell BK251.out 0).trans rfl; have hcz34_1 : w31.cell? ⟨gb251, 1, none⟩ = some (.int .u64 a0_1) := (blk_cell BK251.out 1).trans rfl; have hcz34_2 : w31.cell? ⟨gb251, 2, none⟩ = some (.int .u32 a0_2) := (blk_cell BK251.out 2).trans rfl; have hcz34_3 : w31.cell? ⟨gb251, 3, none⟩ = some (.int .u64 a0_3) := (blk_cell BK251.out 3).trans rfl; have hcz34_4 : w31.cell? ⟨gb251, 4, none⟩ = some (.int .u32 a0_4) := (blk_cell BK251.out 4).trans rfl; have hfz34_0 := blk_frozen BK251.out 0; have hfz34_1 := blk_frozen BK251.out 1; have hfz34_2 := blk_frozen BK251.out 2; have hfz34_3 := blk_frozen BK251.out 3; have hfz34_4 := blk_frozen BK251.out 4) | (obtain ⟨w31f, hgw_⟩ : ∃ y, y = (World.setCell (World.setCell (World.setCell (World.setCell w31 ⟨gb254, 0, none⟩ (.int .i64 a0_0)) ⟨gb254, 1, none⟩ (.int .u64 a0_1)) ⟨gb254, 2, none⟩ (.int .u32 a0_2)) ⟨gb254, 3, none⟩ (.int .u64 a0_3)) := ⟨_, rfl⟩; rw [← hgw_]; have m0_ := Aside0.mk (show w31f.heap[gb251]? = some (.cells #[.int .i64 a0_0, .int .u64 a0_1, .int .u32 a0_2, .int .u64 a0_3, .int .u32 a0_4] 25 (0, 0)) from (by rw [hgw_]; refine blk_far ?_ NB251_254.out _; (with_reducible repeat (first | refine blk_drewN ?_ _ | refine blk_drew ?_ | refine blk_alloc ?_ _)); refine blk_far ?_ NB251_254.out _; (with_reducible repeat (first | refine blk_drewN ?_ _ | refine blk_drew ?_ | refine blk_alloc ?_ _)); refine blk_far ?_ NB251_254.out _; (with_reducible repeat (first | refine blk_drewN ?_ _ | refine blk_drew ?_ | refine blk_alloc ?_ _)); refine blk_far ?_ NB251_254.out _; (with_reducible repeat (first | refine blk_drewN ?_ _ | refine blk_drew ?_ | refine blk_alloc ?_ _)); exact BK251.out)); have m1_ := Aside0.mk (show w31f.heap[gb254]? = some (.cells #[.int .i64 a0_0, .int .u64 a0_1, .int .u32 a0_2, .int .u64 a0_3, .int .u32 0] 25 (0, 0)) from (by rw [hgw_]; refine blk_put (cs := #[.int .i64 a0_0, .int .u64 a0_1, .int .u32 a0_2, .int .u64 0, .int .u32 0]) ?_ 3 _ rfl; (with_reducible repeat (first | refine blk_drewN ?_ _ | refine blk_drew ?_ | refine blk_alloc ?_ _)); refine blk_put (cs := #[.int .i64 a0_0, .int .u64 a0_1, .int .u32 0, .int .u64 0, .int .u32 0]) ?_ 2 _ rfl; (with_reducible repeat (first | refine blk_drewN ?_ _ | refine blk_drew ?_ | refine blk_alloc ?_ _)); refine blk_put (cs := #[.int .i64 a0_0, .int .u64 0, .int .u32 0, .int .u64 0, .int .u32 0]) ?_ 1 _ rfl; (with_reducible repeat (first | refine blk_drewN ?_ _ | refine blk_drew ?_ | refine blk_alloc ?_ _)); refine blk_put (cs := #[.int .i64 0, .int .u64 0, .int .u32 0, .int .u64 0, .int .u32 0]) ?_ 0 _ rfl; (with_reducible repeat (first | refine blk_drewN ?_ _ | refine blk_drew ?_ | refine blk_alloc ?_ _)); exact BK254.out)); have mb_ := Aside0.mk (show Below w.heap.size w w31f from (by rw [hgw_]; exact (by repeat (first | (with_reducible first | exact HB.out | apply below_alloc | apply pw_below_drewN | apply below_drew1 | refine below_set ?_ GE251.out | refine below_set ?_ GE254.out) | exact HB.out)))); clear BK251; have BK251 := m0_; clear m0_; clear BK254; have BK254 := m1_; clear m1_; clear HB; have HB := mb_; clear mb_; clear hgw_; have hcf251_0 : w31f.cell? ⟨gb251, 0, none⟩ = some (.int .i64 a0_0) := (blk_cell BK251.out 0).trans rfl; have hcf251_1 : w31f.cell? ⟨gb251, 1, none⟩ = some (.int .u64 a0_1) := (blk_cell BK251.out 1).trans rfl; have hcf251_2 : w31f.cell? ⟨gb251, 2, none⟩ = some (.int .u32 a0_2) := (blk_cell BK251.out 2).trans rfl; have hcf251_3 : w31f.cell? ⟨gb251, 3, none⟩ = some (.int .u64 a0_3) := (blk_cell BK251.out 3).trans rfl; have hcf251_4 : w31f.cell? ⟨gb251, 4, none⟩ = some (.int .u32 a0_4) := (blk_cell BK251.out 4).trans rfl; have hff251_0 := blk_frozen BK251.out 0; have hff251_1 := blk_frozen BK251.out 1; have hff251_2 := blk_frozen BK251.out 2; have hff251_3 := blk_frozen BK251.out 3; have hff251_4 := blk_frozen BK251.out 4; have hcf254_0 : w31f.cell? ⟨gb254, 0, none⟩ = some (.int .i64 a0_0) := (blk_cell BK254.out 0).trans rfl; have hcf254_1 : w31f.cell? ⟨gb254, 1, none⟩ = some (.int .u64 a0_1) := (blk_cell BK254.out 1).trans rfl; have hcf254_2 : w31f.cell? ⟨gb254, 2, none⟩ = some (.int .u32 a0_2) := (blk_cell BK254.out 2).trans rfl; have hcf254_3 : w31f.cell? ⟨gb254, 3, none⟩ = some (.int .u64 a0_3) := (blk_cell BK254.out 3).trans rfl; have hcf254_4 : w31f.cell? ⟨gb254, 4, none⟩ = some (.int .u32 0) := (blk_cell BK254.out 4).trans rfl; have hff254_0 := blk_frozen BK254.out 0; have hff254_1 := blk_frozen BK254.out 1; have hff254_2 := blk_frozen BK254.out 2; have hff254_3 := blk_frozen BK254.out 3; have hff254_4 := blk_frozen BK254.out 4) | ((with_reducible refine gate_callee (f := 7) rfl ?_); refine goesL_ (some 35) rfl rfl Tryd.func7 (by kernel_rfl) rfl #[.agg #[.int .i64 a0_0, .int .u64 a0_1, .int .u32 a0_4, .int .u64 a0_3, .int .u32 a0_2]] rfl (by (try simp only [List.map_toArray, List.map_cons, List.map_nil]); first | done | rfl | (simp only [List.length_drop, List.length_take]; rfl)) ?_; (with_reducible refine (arp_Build.calls k a0_0 a0_1 a0_4 a0_3 a0_2 t255 t256 _ A4.out).mono ?_); rintro e w35 ⟨rfl, hb⟩; refine ⟨_, rfl, ?_⟩; have n0_ := Aside0.mk (blk_below (g := gb251) (o := .cells #[.int .i64 a0_0, .int .u64 a0_1, .int .u32 a0_2, .int .u64 a0_3, .int .u32 a0_4] 25 (0, 0)) (by (with_reducible repeat (first | refine blk_drewN ?_ _ | refine blk_drew ?_ | refine blk_alloc ?_ _)); refine blk_far ?_ NB251_254.out _; (with_reducible repeat (first | refine blk_drewN ?_ _ | refine blk_drew ?_ | refine blk_alloc ?_ _)); refine blk_far ?_ NB251_254.out _; (with_reducible repeat (first | refine blk_drewN ?_ _ | refine blk_drew ?_ | refine blk_alloc ?_ _)); refine blk_far ?_ NB251_254.out _; (with_reducible repeat (first | refine blk_drewN ?_ _ | refine blk_drew ?_ | refine blk_alloc ?_ _)); exact BK251.out) hb); have n1_ := Aside0.mk (blk_below (g := gb254) (o := .cells #[.int .i64 a0_0, .int .u64 a0_1, .int .u32 a0_4, .int .u64 a0_3, .int .u32 a0_2] 25 (0, 0)) (by (with_reducible repeat (first | refine blk_drewN ?_ _ | refine blk_drew ?_ | refine blk_alloc ?_ _)); refine blk_put (cs := #[.int .i64 a0_0, .int .u64 a0_1, .int .u32 a0_4, .int .u64 a0_3, .int .u32 a0_4]) ?_ 4 _ rfl; (with_reducible repeat (first | refine blk_drewN ?_ _ | refine blk_drew ?_ | refine blk_alloc ?_ _)); refine blk_put (cs := #[.int .i64 a0_0, .int .u64 a0_1, .int .u32 a0_2, .int .u64 a0_3, .int .u32 a0_4]) ?_ 2 _ rfl; (with_reducible repeat (first | refine blk_drewN ?_ _ | refine blk_drew ?_ | refine blk_alloc ?_ _)); refine blk_put (cs := #[.int .i64 a0_0, .int .u64 a0_1, .int .u32 a0_2, .int .u64 a0_3, .int .u32 0]) ?_ 4 _ rfl; (with_reducible repeat (first | refine blk_drewN ?_ _ | refine blk_drew ?_ | refine blk_alloc ?_ _)); exact BK254.out) hb); have n2_ := Aside0.mk (below_step (by repeat (first | (with_reducible first | exact HB.out | apply below_alloc | apply pw_below_drewN | apply below_drew1 | refine below_set ?_ GE251.out | refine below_set ?_ GE254.out) | exact HB.out)) hb); clear BK251; clear BK254; clear HB; have BK251 := n0_; have BK254 := n1_; have HB := n2_; clear n0_ n1_ n2_; have hcy3_251_0 := (show World.cell? _ ⟨gb251, 0, none⟩ = some (.int .i64 a0_0) from (blk_cell BK251.out 0).trans rfl); have hcy3_251_1 := (show World.cell? _ ⟨gb251, 1, none⟩ = some (.int .u64 a0_1) from (blk_cell BK251.out 1).trans rfl); have hcy3_251_2 := (show World.cell? _ ⟨gb251, 2, none⟩ = some (.int .u32 a0_2) from (blk_cell BK251.out 2).trans rfl); have hcy3_251_3 := (show World.cell? _ ⟨gb251, 3, none⟩ = some (.int .u64 a0_3) from (blk_cell BK251.out 3).trans rfl); have hcy3_251_4 := (show World.cell? _ ⟨gb251, 4, none⟩ = some (.int .u32 a0_4) from (blk_cell BK251.out 4).trans rfl); (try clear hb); (try clear hb2); (try clear hk); (try clear hi)))
                                        have n0_ := Aside0.mk (blk_drew BK251.out)
                                        have n1_ := Aside0.mk (blk_drew BK254.out)
                                        have n2_ := Aside0.mk (below_drew1 HB.out)
                                        clear BK251
                                        clear BK254
                                        clear HB
                                        have BK251 := n0_
                                        have BK254 := n1_
                                        have HB := n2_
                                        clear n0_ n1_ n2_
                                        refine start_ (n := 42) (S := fun w' => True) (ds := []) #[false, false, false, false, false, false, false, false, false, false, false, false, false, false, false, false, false, false, false, false, false, false, false, false, false, false, false, false, false, false, false, false, false, false, false, false, false, false, false, false, false, false] (by kernel_rfl) rfl rfl trivial (fun hHeld => ?_); refine with_tabW gangwaylaw05_ArpBytes.tab8 gangwaylaw05_ArpBytes.bits8 (fun HT_ HW_ => ?_)
                                        generalize w35.drew = w36 at BK251 BK254 HB hHeld ⊢
                                        refine pure_ (i := 0) (N := some 38) (v := ?_) (a' := ?_) #[true, false, false, false, false, false, false, false, false, false, false, false, false, false, false, false, false, false, false, false, false, false, false, false, false, false, false, false, false, false, false, false, false, false, false, false, false, false, false, false, false, false] rfl rfl (any_of HT_.out (by kernel_rfl)) (fun _ _ _ h => h) (Or.inl ⟨by rfl, ?_⟩) ?_ ?_
                                        rotate_left
                                        · intro w'
                                          go_simp
                                          first | with_reducible rfl | (rw [if_neg (by (try simp only [decide_eq_true_eq, ByteArray.size_append, ByteArray.size_extract, eq_iff_iff, iff_true, iff_false, Nat.not_lt] at *); omega)]; try with_reducible rfl)
                                        rotate_left
                                        · simp only [Act.put, List.setIfInBounds_toArray, List.set_cons_zero, List.set_cons_succ, i64_w, i32_w]
                                          rfl
                                        refine pure_ (i := 1) (N := some 39) (v := ?_) (a' := ?_) #[true, true, false, false, false, false, false, false, false, false, false, false, false, false, false, false, false, false, false, false, false, false, false, false, false, false, false, false, false, false, false, false, false, false, false, false, false, false, false, false, false, false] rfl rfl (any_of HT_.out (by kernel_rfl)) (fun _ _ _ h => h) (Or.inl ⟨by rfl, ?_⟩) ?_ ?_
                                        rotate_left
                                        · intro w'
                                          go_simp
                                          first | with_reducible rfl | (rw [if_neg (by (try simp only [decide_eq_true_eq, ByteArray.size_append, ByteArray.size_extract, eq_iff_iff, iff_true, iff_false, Nat.not_lt] at *); omega)]; try with_reducible rfl)
                                        rotate_left
                                        · simp only [Act.put, List.setIfInBounds_toArray, List.set_cons_zero, List.set_cons_succ, i64_w, i32_w]
                                          rfl
                                        refine pure_ (i := 2) (N := some 40) (v := ?_) (a' := ?_) #[true, true, true, false, false, false, false, false, false, false, false, false, false, false, false, false, false, false, false, false, false, false, false, false, false, false, false, false, false, false, false, false, false, false, false, false, false, false, false, false, false, false] rfl rfl (any_of HT_.out (by kernel_rfl)) (fun _ _ _ h => h) (Or.inl ⟨by rfl, ?_⟩) ?_ ?_
                                        rotate_left
                                        · intro w'
                                          go_simp
                                          first | with_reducible rfl | (rw [if_neg (by (try simp only [decide_eq_true_eq, ByteArray.size_append, ByteArray.size_extract, eq_iff_iff, iff_true, iff_false, Nat.not_lt] at *); omega)]; try with_reducible rfl)
                                        rotate_left
                                        · simp only [Act.put, List.setIfInBounds_toArray, List.set_cons_zero, List.set_cons_succ, i64_w, i32_w]
                                          rfl
                                        refine pure_ (i := 3) (N := some 41) (v := ?_) (a' := ?_) #[true, true, true, true, false, false, false, false, false, false, false, false, false, false, false, false, false, false, false, false, false, false, false, false, false, false, false, false, false, false, false, false, false, false, false, false, false, false, false, false, false, false] rfl rfl (any_of HT_.out (by kernel_rfl)) (fun _ _ _ h => h) (Or.inl ⟨by rfl, ?_⟩) ?_ ?_
                                        rotate_left
                                        · intro w'
                                          go_simp
                                          first | with_reducible rfl | (rw [if_neg (by (try simp only [decide_eq_true_eq, ByteArray.size_append, ByteArray.size_extract, eq_iff_iff, iff_true, iff_false, Nat.not_lt] at *); omega)]; try with_reducible rfl)
                                        rotate_left
                                        · simp only [Act.put, List.setIfInBounds_toArray, List.set_cons_zero, List.set_cons_succ, i64_w, i32_w]
                                          rfl
                                        refine pure_ (i := 4) (N := some 42) (v := ?_) (a' := ?_) #[true, true, true, true, true, false, false, false, false, false, false, false, false, false, false, false, false, false, false, false, false, false, false, false, false, false, false, false, false, false, false, false, false, false, false, false, false, false, false, false, false, false] rfl rfl (any_of HT_.out (by kernel_rfl)) (fun _ _ _ h => h) (Or.inl ⟨by rfl, ?_⟩) ?_ ?_
                                        rotate_left
                                        · intro w'
                                          go_simp
                                          first | with_reducible rfl | (rw [if_neg (by (try simp only [decide_eq_true_eq, ByteArray.size_append, ByteArray.size_extract, eq_iff_iff, iff_true, iff_false, Nat.not_lt] at *); omega)]; try with_reducible rfl)
                                        rotate_left
                                        · simp only [Act.put, List.setIfInBounds_toArray, List.set_cons_zero, List.set_cons_succ, i64_w, i32_w]
                                          rfl
                                        refine pure_ (i := 5) (N := some 43) (v := ?_) (a' := ?_) #[true, true, true, true, true, true, false, false, false, false, false, false, false, false, false, false, false, false, false, false, false, false, false, false, false, false, false, false, false, false, false, false, false, false, false, false, false, false, false, false, false, false] rfl rfl (any_of HT_.out (by kernel_rfl)) (fun _ _ _ h => h) (Or.inl ⟨by rfl, ?_⟩) ?_ ?_
                                        rotate_left
                                        · intro w'
                                          go_simp
                                          first | with_reducible rfl | (rw [if_neg (by (try simp only [decide_eq_true_eq, ByteArray.size_append, ByteArray.size_extract, eq_iff_iff, iff_true, iff_false, Nat.not_lt] at *); omega)]; try with_reducible rfl)
                                        rotate_left
                                        · simp only [Act.put, List.setIfInBounds_toArray, List.set_cons_zero, List.set_cons_succ, i64_w, i32_w]
                                          rfl
                                        refine pure_ (i := 6) (N := some 44) (v := ?_) (a' := ?_) #[true, true, true, true, true, true, true, false, false, false, false, false, false, false, false, false, false, false, false, false, false, false, false, false, false, false, false, false, false, false, false, false, false, false, false, false, false, false, false, false, false, false] rfl rfl (any_of HT_.out (by kernel_rfl)) (fun _ _ _ h => h) (Or.inl ⟨by rfl, ?_⟩) ?_ ?_
                                        rotate_left
                                        · intro w'
                                          go_simp
                                          first | with_reducible rfl | (rw [if_neg (by (try simp only [decide_eq_true_eq, ByteArray.size_append, ByteArray.size_extract, eq_iff_iff, iff_true, iff_false, Nat.not_lt] at *); omega)]; try with_reducible rfl)
                                        rotate_left
                                        · simp only [Act.put, List.setIfInBounds_toArray, List.set_cons_zero, List.set_cons_succ, i64_w, i32_w]
                                          rfl
                                        refine pure_ (i := 7) (N := some 45) (v := ?_) (a' := ?_) #[true, true, true, true, true, true, true, true, false, false, false, false, false, false, false, false, false, false, false, false, false, false, false, false, false, false, false, false, false, false, false, false, false, false, false, false, false, false, false, false, false, false] rfl rfl (any_of HT_.out (by kernel_rfl)) (fun _ _ _ h => h) (Or.inl ⟨by rfl, ?_⟩) ?_ ?_
                                        rotate_left
                                        · intro w'
                                          go_simp
                                          first | with_reducible rfl | (rw [if_neg (by (try simp only [decide_eq_true_eq, ByteArray.size_append, ByteArray.size_extract, eq_iff_iff, iff_true, iff_false, Nat.not_lt] at *); omega)]; try with_reducible rfl)
                                        rotate_left
                                        · simp only [Act.put, List.setIfInBounds_toArray, List.set_cons_zero, List.set_cons_succ, i64_w, i32_w]
                                          rfl
                                        refine pure_ (i := 8) (N := some 46) (v := ?_) (a' := ?_) #[true, true, true, true, true, true, true, true, true, false, false, false, false, false, false, false, false, false, false, false, false, false, false, false, false, false, false, false, false, false, false, false, false, false, false, false, false, false, false, false, false, false] rfl rfl (any_of HT_.out (by kernel_rfl)) (fun _ _ _ h => h) (Or.inl ⟨by rfl, ?_⟩) ?_ ?_
                                        rotate_left
                                        · intro w'
                                          go_simp
                                          first | with_reducible rfl | (rw [if_neg (by (try simp only [decide_eq_true_eq, ByteArray.size_append, ByteArray.size_extract, eq_iff_iff, iff_true, iff_false, Nat.not_lt] at *); omega)]; try with_reducible rfl)
                                        rotate_left
                                        · simp only [Act.put, List.setIfInBounds_toArray, List.set_cons_zero, List.set_cons_succ, i64_w, i32_w]
                                          rfl
                                        refine pure_ (i := 9) (N := some 47) (v := ?_) (a' := ?_) #[true, true, true, true, true, true, true, true, true, true, false, false, false, false, false, false, false, false, false, false, false, false, false, false, false, false, false, false, false, false, false, false, false, false, false, false, false, false, false, false, false, false] rfl rfl (any_of HT_.out (by kernel_rfl)) (fun _ _ _ h => h) (Or.inl ⟨by rfl, ?_⟩) ?_ ?_
                                        rotate_left
                                        · intro w'
                                          go_simp
                                          first | with_reducible rfl | (rw [if_neg (by (try simp only [decide_eq_true_eq, ByteArray.size_append, ByteArray.size_extract, eq_iff_iff, iff_true, iff_false, Nat.not_lt] at *); omega)]; try with_reducible rfl)
                                        rotate_left
                                        · simp only [Act.put, List.setIfInBounds_toArray, List.set_cons_zero, List.set_cons_succ, i64_w, i32_w]
                                          rfl
                                        refine pure_ (i := 10) (N := some 48) (v := ?_) (a' := ?_) #[true, true, true, true, true, true, true, true, true, true, true, false, false, false, false, false, false, false, false, false, false, false, false, false, false, false, false, false, false, false, false, false, false, false, false, false, false, false, false, false, false, false] rfl rfl (any_of HT_.out (by kernel_rfl)) (fun _ _ _ h => h) (Or.inl ⟨by rfl, ?_⟩) ?_ ?_
                                        rotate_left
                                        · intro w'
                                          go_simp
                                          first | with_reducible rfl | (rw [if_neg (by (try simp only [decide_eq_true_eq, ByteArray.size_append, ByteArray.size_extract, eq_iff_iff, iff_true, iff_false, Nat.not_lt] at *); omega)]; try with_reducible rfl)
                                        rotate_left
                                        · simp only [Act.put, List.setIfInBounds_toArray, List.set_cons_zero, List.set_cons_succ, i64_w, i32_w]
                                          rfl
                                        refine pure_ (i := 11) (N := some 49) (v := ?_) (a' := ?_) #[true, true, true, true, true, true, true, true, true, true, true, true, false, false, false, false, false, false, false, false, false, false, false, false, false, false, false, false, false, false, false, false, false, false, false, false, false, false, false, false, false, false] rfl rfl (any_of HT_.out (by kernel_rfl)) (fun _ _ _ h => h) (Or.inl ⟨by rfl, ?_⟩) ?_ ?_
                                        rotate_left
                                        · intro w'
                                          go_simp
                                          first | with_reducible rfl | (rw [if_neg (by (try simp only [decide_eq_true_eq, ByteArray.size_append, ByteArray.size_extract, eq_iff_iff, iff_true, iff_false, Nat.not_lt] at *); omega)]; try with_reducible rfl)
                                        rotate_left
                                        · simp only [Act.put, List.setIfInBounds_toArray, List.set_cons_zero, List.set_cons_succ, i64_w, i32_w]
                                          rfl
                                        refine pure_ (i := 12) (N := some 50) (v := ?_) (a' := ?_) #[true, true, true, true, true, true, true, true, true, true, true, true, true, false, false, false, false, false, false, false, false, false, false, false, false, false, false, false, false, false, false, false, false, false, false, false, false, false, false, false, false, false] rfl rfl (any_of HT_.out (by kernel_rfl)) (fun _ _ _ h => h) (Or.inl ⟨by rfl, ?_⟩) ?_ ?_
                                        rotate_left
                                        · intro w'
                                          go_simp
                                          first | with_reducible rfl | (rw [if_neg (by (try simp only [decide_eq_true_eq, ByteArray.size_append, ByteArray.size_extract, eq_iff_iff, iff_true, iff_false, Nat.not_lt] at *); omega)]; try with_reducible rfl)
                                        rotate_left
                                        · simp only [Act.put, List.setIfInBounds_toArray, List.set_cons_zero, List.set_cons_succ, i64_w, i32_w]
                                          rfl
                                        refine pure_ (i := 13) (N := some 51) (v := ?_) (a' := ?_) #[true, true, true, true, true, true, true, true, true, true, true, true, true, true, false, false, false, false, false, false, false, false, false, false, false, false, false, false, false, false, false, false, false, false, false, false, false, false, false, false, false, false] rfl rfl (any_of HT_.out (by kernel_rfl)) (fun _ _ _ h => h) (Or.inl ⟨by rfl, ?_⟩) ?_ ?_
                                        rotate_left
                                        · intro w'
                                          go_simp
                                          first | with_reducible rfl | (rw [if_neg (by (try simp only [decide_eq_true_eq, ByteArray.size_append, ByteArray.size_extract, eq_iff_iff, iff_true, iff_false, Nat.not_lt] at *); omega)]; try with_reducible rfl)
                                        rotate_left
                                        · simp only [Act.put, List.setIfInBounds_toArray, List.set_cons_zero, List.set_cons_succ, i64_w, i32_w]
                                          rfl
                                        refine pure_ (i := 14) (N := some 52) (v := ?_) (a' := ?_) #[true, true, true, true, true, true, true, true, true, true, true, true, true, true, true, false, false, false, false, false, false, false, false, false, false, false, false, false, false, false, false, false, false, false, false, false, false, false, false, false, false, false] rfl rfl (any_of HT_.out (by kernel_rfl)) (fun _ _ _ h => h) (Or.inl ⟨by rfl, ?_⟩) ?_ ?_
                                        rotate_left
                                        · intro w'
                                          go_simp
                                          first | with_reducible rfl | (rw [if_neg (by (try simp only [decide_eq_true_eq, ByteArray.size_append, ByteArray.size_extract, eq_iff_iff, iff_true, iff_false, Nat.not_lt] at *); omega)]; try with_reducible rfl)
                                        rotate_left
                                        · simp only [Act.put, List.setIfInBounds_toArray, List.set_cons_zero, List.set_cons_succ, i64_w, i32_w]
                                          rfl
                                        refine pure_ (i := 15) (N := some 53) (v := ?_) (a' := ?_) #[true, true, true, true, true, true, true, true, true, true, true, true, true, true, true, true, false, false, false, false, false, false, false, false, false, false, false, false, false, false, false, false, false, false, false, false, false, false, false, false, false, false] rfl rfl (any_of HT_.out (by kernel_rfl)) (fun _ _ _ h => h) (Or.inl ⟨by rfl, ?_⟩) ?_ ?_
                                        rotate_left
                                        · intro w'
                                          go_simp
                                          first | with_reducible rfl | (rw [if_neg (by (try simp only [decide_eq_true_eq, ByteArray.size_append, ByteArray.size_extract, eq_iff_iff, iff_true, iff_false, Nat.not_lt] at *); omega)]; try with_reducible rfl)
                                        rotate_left
                                        · simp only [Act.put, List.setIfInBounds_toArray, List.set_cons_zero, List.set_cons_succ, i64_w, i32_w]
                                          rfl
                                        refine pure_ (i := 16) (N := some 54) (v := ?_) (a' := ?_) #[true, true, true, true, true, true, true, true, true, true, true, true, true, true, true, true, true, false, false, false, false, false, false, false, false, false, false, false, false, false, false, false, false, false, false, false, false, false, false, false, false, false] rfl rfl (any_of HT_.out (by kernel_rfl)) (fun _ _ _ h => h) (Or.inl ⟨by rfl, ?_⟩) ?_ ?_
                                        rotate_left
                                        · intro w'
                                          go_simp
                                          first | with_reducible rfl | (rw [if_neg (by (try simp only [decide_eq_true_eq, ByteArray.size_append, ByteArray.size_extract, eq_iff_iff, iff_true, iff_false, Nat.not_lt] at *); omega)]; try with_reducible rfl)
                                        rotate_left
                                        · simp only [Act.put, List.setIfInBounds_toArray, List.set_cons_zero, List.set_cons_succ, i64_w, i32_w]
                                          rfl
                                        refine pure_ (i := 17) (N := some 55) (v := ?_) (a' := ?_) #[true, true, true, true, true, true, true, true, true, true, true, true, true, true, true, true, true, true, false, false, false, false, false, false, false, false, false, false, false, false, false, false, false, false, false, false, false, false, false, false, false, false] rfl rfl (any_of HT_.out (by kernel_rfl)) (fun _ _ _ h => h) (Or.inl ⟨by rfl, ?_⟩) ?_ ?_
                                        rotate_left
                                        · intro w'
                                          go_simp
                                          first | with_reducible rfl | (rw [if_neg (by (try simp only [decide_eq_true_eq, ByteArray.size_append, ByteArray.size_extract, eq_iff_iff, iff_true, iff_false, Nat.not_lt] at *); omega)]; try with_reducible rfl)
                                        rotate_left
                                        · simp only [Act.put, List.setIfInBounds_toArray, List.set_cons_zero, List.set_cons_succ, i64_w, i32_w]
                                          rfl
                                        refine pure_ (i := 18) (N := some 56) (v := ?_) (a' := ?_) #[true, true, true, true, true, true, true, true, true, true, true, true, true, true, true, true, true, true, true, false, false, false, false, false, false, false, false, false, false, false, false, false, false, false, false, false, false, false, false, false, false, false] rfl rfl (any_of HT_.out (by kernel_rfl)) (fun _ _ _ h => h) (Or.inl ⟨by rfl, ?_⟩) ?_ ?_
                                        rotate_left
                                        · intro w'
                                          go_simp
                                          first | with_reducible rfl | (rw [if_neg (by (try simp only [decide_eq_true_eq, ByteArray.size_append, ByteArray.size_extract, eq_iff_iff, iff_true, iff_false, Nat.not_lt] at *); omega)]; try with_reducible rfl)
                                        rotate_left
                                        · simp only [Act.put, List.setIfInBounds_toArray, List.set_cons_zero, List.set_cons_succ, i64_w, i32_w]
                                          rfl
                                        refine pure_ (i := 19) (N := some 57) (v := ?_) (a' := ?_) #[true, true, true, true, true, true, true, true, true, true, true, true, true, true, true, true, true, true, true, true, false, false, false, false, false, false, false, false, false, false, false, false, false, false, false, false, false, false, false, false, false, false] rfl rfl (any_of HT_.out (by kernel_rfl)) (fun _ _ _ h => h) (Or.inl ⟨by rfl, ?_⟩) ?_ ?_
                                        rotate_left
                                        · intro w'
                                          go_simp
                                          first | with_reducible rfl | (rw [if_neg (by (try simp only [decide_eq_true_eq, ByteArray.size_append, ByteArray.size_extract, eq_iff_iff, iff_true, iff_false, Nat.not_lt] at *); omega)]; try with_reducible rfl)
                                        rotate_left
                                        · simp only [Act.put, List.setIfInBounds_toArray, List.set_cons_zero, List.set_cons_succ, i64_w, i32_w]
                                          rfl
                                        refine pure_ (i := 20) (N := some 58) (v := ?_) (a' := ?_) #[true, true, true, true, true, true, true, true, true, true, true, true, true, true, true, true, true, true, true, true, true, false, false, false, false, false, false, false, false, false, false, false, false, false, false, false, false, false, false, false, false, false] rfl rfl (any_of HT_.out (by kernel_rfl)) (fun _ _ _ h => h) (Or.inl ⟨by rfl, ?_⟩) ?_ ?_
                                        rotate_left
                                        · intro w'
                                          go_simp
                                          first | with_reducible rfl | (rw [if_neg (by (try simp only [decide_eq_true_eq, ByteArray.size_append, ByteArray.size_extract, eq_iff_iff, iff_true, iff_false, Nat.not_lt] at *); omega)]; try with_reducible rfl)
                                        rotate_left
                                        · simp only [Act.put, List.setIfInBounds_toArray, List.set_cons_zero, List.set_cons_succ, i64_w, i32_w]
                                          rfl
                                        refine pure_ (i := 21) (N := some 59) (v := ?_) (a' := ?_) #[true, true, true, true, true, true, true, true, true, true, true, true, true, true, true, true, true, true, true, true, true, true, false, false, false, false, false, false, false, false, false, false, false, false, false, false, false, false, false, false, false, false] rfl rfl (any_of HT_.out (by kernel_rfl)) (fun _ _ _ h => h) (Or.inl ⟨by rfl, ?_⟩) ?_ ?_
                                        rotate_left
                                        · intro w'
                                          go_simp
                                          first | with_reducible rfl | (rw [if_neg (by (try simp only [decide_eq_true_eq, ByteArray.size_append, ByteArray.size_extract, eq_iff_iff, iff_true, iff_false, Nat.not_lt] at *); omega)]; try with_reducible rfl)
                                        rotate_left
                                        · simp only [Act.put, List.setIfInBounds_toArray, List.set_cons_zero, List.set_cons_succ, i64_w, i32_w]
                                          rfl
                                        refine pure_ (i := 22) (N := some 60) (v := ?_) (a' := ?_) #[true, true, true, true, true, true, true, true, true, true, true, true, true, true, true, true, true, true, true, true, true, true, true, false, false, false, false, false, false, false, false, false, false, false, false, false, false, false, false, false, false, false] rfl rfl (any_of HT_.out (by kernel_rfl)) (fun _ _ _ h => h) (Or.inl ⟨by rfl, ?_⟩) ?_ ?_
                                        rotate_left
                                        · intro w'
                                          go_simp
                                          first | with_reducible rfl | (rw [if_neg (by (try simp only [decide_eq_true_eq, ByteArray.size_append, ByteArray.size_extract, eq_iff_iff, iff_true, iff_false, Nat.not_lt] at *); omega)]; try with_reducible rfl)
                                        rotate_left
                                        · simp only [Act.put, List.setIfInBounds_toArray, List.set_cons_zero, List.set_cons_succ, i64_w, i32_w]
                                          rfl
                                        refine pure_ (i := 23) (N := some 61) (v := ?_) (a' := ?_) #[true, true, true, true, true, true, true, true, true, true, true, true, true, true, true, true, true, true, true, true, true, true, true, true, false, false, false, false, false, false, false, false, false, false, false, false, false, false, false, false, false, false] rfl rfl (any_of HT_.out (by kernel_rfl)) (fun _ _ _ h => h) (Or.inl ⟨by rfl, ?_⟩) ?_ ?_
                                        rotate_left
                                        · intro w'
                                          go_simp
                                          first | with_reducible rfl | (rw [if_neg (by (try simp only [decide_eq_true_eq, ByteArray.size_append, ByteArray.size_extract, eq_iff_iff, iff_true, iff_false, Nat.not_lt] at *); omega)]; try with_reducible rfl)
                                        rotate_left
                                        · simp only [Act.put, List.setIfInBounds_toArray, List.set_cons_zero, List.set_cons_succ, i64_w, i32_w]
                                          rfl
                                        refine pure_ (i := 24) (N := some 62) (v := ?_) (a' := ?_) #[true, true, true, true, true, true, true, true, true, true, true, true, true, true, true, true, true, true, true, true, true, true, true, true, true, false, false, false, false, false, false, false, false, false, false, false, false, false, false, false, false, false] rfl rfl (any_of HT_.out (by kernel_rfl)) (fun _ _ _ h => h) (Or.inl ⟨by rfl, ?_⟩) ?_ ?_
                                        rotate_left
                                        · intro w'
                                          go_simp
                                          first | with_reducible rfl | (rw [if_neg (by (try simp only [decide_eq_true_eq, ByteArray.size_append, ByteArray.size_extract, eq_iff_iff, iff_true, iff_false, Nat.not_lt] at *); omega)]; try with_reducible rfl)
                                        rotate_left
                                        · simp only [Act.put, List.setIfInBounds_toArray, List.set_cons_zero, List.set_cons_succ, i64_w, i32_w]
                                          rfl
                                        refine pure_ (i := 25) (N := some 63) (v := ?_) (a' := ?_) #[true, true, true, true, true, true, true, true, true, true, true, true, true, true, true, true, true, true, true, true, true, true, true, true, true, true, false, false, false, false, false, false, false, false, false, false, false, false, false, false, false, false] rfl rfl (any_of HT_.out (by kernel_rfl)) (fun _ _ _ h => h) (Or.inl ⟨by rfl, ?_⟩) ?_ ?_
                                        rotate_left
                                        · intro w'
                                          go_simp
                                          first | with_reducible rfl | (rw [if_neg (by (try simp only [decide_eq_true_eq, ByteArray.size_append, ByteArray.size_extract, eq_iff_iff, iff_true, iff_false, Nat.not_lt] at *); omega)]; try with_reducible rfl)
                                        rotate_left
                                        · simp only [Act.put, List.setIfInBounds_toArray, List.set_cons_zero, List.set_cons_succ, i64_w, i32_w]
                                          rfl
                                        refine pure_ (i := 26) (N := some 64) (v := ?_) (a' := ?_) #[true, true, true, true, true, true, true, true, true, true, true, true, true, true, true, true, true, true, true, true, true, true, true, true, true, true, true, false, false, false, false, false, false, false, false, false, false, false, false, false, false, false] rfl rfl (any_of HT_.out (by kernel_rfl)) (fun _ _ _ h => h) (Or.inl ⟨by rfl, ?_⟩) ?_ ?_
                                        rotate_left
                                        · intro w'
                                          go_simp
                                          first | with_reducible rfl | (rw [if_neg (by (try simp only [decide_eq_true_eq, ByteArray.size_append, ByteArray.size_extract, eq_iff_iff, iff_true, iff_false, Nat.not_lt] at *); omega)]; try with_reducible rfl)
                                        rotate_left
                                        · simp only [Act.put, List.setIfInBounds_toArray, List.set_cons_zero, List.set_cons_succ, i64_w, i32_w]
                                          rfl
                                        refine pure_ (i := 27) (N := some 65) (v := ?_) (a' := ?_) #[true, true, true, true, true, true, true, true, true, true, true, true, true, true, true, true, true, true, true, true, true, true, true, true, true, true, true, true, false, false, false, false, false, false, false, false, false, false, false, false, false, false] rfl rfl (any_of HT_.out (by kernel_rfl)) (fun _ _ _ h => h) (Or.inl ⟨by rfl, ?_⟩) ?_ ?_
                                        rotate_left
                                        · intro w'
                                          go_simp
                                          first | with_reducible rfl | (rw [if_neg (by (try simp only [decide_eq_true_eq, ByteArray.size_append, ByteArray.size_extract, eq_iff_iff, iff_true, iff_false, Nat.not_lt] at *); omega)]; try with_reducible rfl)
                                        rotate_left
                                        · simp only [Act.put, List.setIfInBounds_toArray, List.set_cons_zero, List.set_cons_succ, i64_w, i32_w]
                                          rfl
                                        refine pure_ (i := 28) (N := some 66) (v := ?_) (a' := ?_) #[true, true, true, true, true, true, true, true, true, true, true, true, true, true, true, true, true, true, true, true, true, true, true, true, true, true, true, true, true, false, false, false, false, false, false, false, false, false, false, false, false, false] rfl rfl (any_of HT_.out (by kernel_rfl)) (fun _ _ _ h => h) (Or.inl ⟨by rfl, ?_⟩) ?_ ?_
                                        rotate_left
                                        · intro w'
                                          go_simp
                                          first | with_reducible rfl | (rw [if_neg (by (try simp only [decide_eq_true_eq, ByteArray.size_append, ByteArray.size_extract, eq_iff_iff, iff_true, iff_false, Nat.not_lt] at *); omega)]; try with_reducible rfl)
                                        rotate_left
                                        · simp only [Act.put, List.setIfInBounds_toArray, List.set_cons_zero, List.set_cons_succ, i64_w, i32_w]
                                          rfl
                                        refine pure_ (i := 29) (N := some 67) (v := ?_) (a' := ?_) #[true, true, true, true, true, true, true, true, true, true, true, true, true, true, true, true, true, true, true, true, true, true, true, true, true, true, true, true, true, true, false, false, false, false, false, false, false, false, false, false, false, false] rfl rfl (any_of HT_.out (by kernel_rfl)) (fun _ _ _ h => h) (Or.inl ⟨by rfl, ?_⟩) ?_ ?_
                                        rotate_left
                                        · intro w'
                                          go_simp
                                          first | with_reducible rfl | (rw [if_neg (by (try simp only [decide_eq_true_eq, ByteArray.size_append, ByteArray.size_extract, eq_iff_iff, iff_true, iff_false, Nat.not_lt] at *); omega)]; try with_reducible rfl)
                                        rotate_left
                                        · simp only [Act.put, List.setIfInBounds_toArray, List.set_cons_zero, List.set_cons_succ, i64_w, i32_w]
                                          rfl
                                        refine pure_ (i := 30) (N := some 68) (v := ?_) (a' := ?_) #[true, true, true, true, true, true, true, true, true, true, true, true, true, true, true, true, true, true, true, true, true, true, true, true, true, true, true, true, true, true, true, false, false, false, false, false, false, false, false, false, false, false] rfl rfl (any_of HT_.out (by kernel_rfl)) (fun _ _ _ h => h) (Or.inl ⟨by rfl, ?_⟩) ?_ ?_
                                        rotate_left
                                        · intro w'
                                          go_simp
                                          first | with_reducible rfl | (rw [if_neg (by (try simp only [decide_eq_true_eq, ByteArray.size_append, ByteArray.size_extract, eq_iff_iff, iff_true, iff_false, Nat.not_lt] at *); omega)]; try with_reducible rfl)
                                        rotate_left
                                        · simp only [Act.put, List.setIfInBounds_toArray, List.set_cons_zero, List.set_cons_succ, i64_w, i32_w]
                                          rfl
                                        refine pure_ (i := 31) (N := some 69) (v := ?_) (a' := ?_) #[true, true, true, true, true, true, true, true, true, true, true, true, true, true, true, true, true, true, true, true, true, true, true, true, true, true, true, true, true, true, true, true, false, false, false, false, false, false, false, false, false, false] rfl rfl (any_of HT_.out (by kernel_rfl)) (fun _ _ _ h => h) (Or.inl ⟨by rfl, ?_⟩) ?_ ?_
                                        rotate_left
                                        · intro w'
                                          go_simp
                                          first | with_reducible rfl | (rw [if_neg (by (try simp only [decide_eq_true_eq, ByteArray.size_append, ByteArray.size_extract, eq_iff_iff, iff_true, iff_false, Nat.not_lt] at *); omega)]; try with_reducible rfl)
                                        rotate_left
                                        · simp only [Act.put, List.setIfInBounds_toArray, List.set_cons_zero, List.set_cons_succ, i64_w, i32_w]
                                          rfl
                                        refine pure_ (i := 32) (N := some 70) (v := ?_) (a' := ?_) #[true, true, true, true, true, true, true, true, true, true, true, true, true, true, true, true, true, true, true, true, true, true, true, true, true, true, true, true, true, true, true, true, true, false, false, false, false, false, false, false, false, false] rfl rfl (any_of HT_.out (by kernel_rfl)) (fun _ _ _ h => h) (Or.inl ⟨by rfl, ?_⟩) ?_ ?_
                                        rotate_left
                                        · intro w'
                                          go_simp
                                          first | with_reducible rfl | (rw [if_neg (by (try simp only [decide_eq_true_eq, ByteArray.size_append, ByteArray.size_extract, eq_iff_iff, iff_true, iff_false, Nat.not_lt] at *); omega)]; try with_reducible rfl)
                                        rotate_left
                                        · simp only [Act.put, List.setIfInBounds_toArray, List.set_cons_zero, List.set_cons_succ, i64_w, i32_w]
                                          rfl
                                        refine pure_ (i := 33) (N := some 71) (v := ?_) (a' := ?_) #[true, true, true, true, true, true, true, true, true, true, true, true, true, true, true, true, true, true, true, true, true, true, true, true, true, true, true, true, true, true, true, true, true, true, false, false, false, false, false, false, false, false] rfl rfl (any_of HT_.out (by kernel_rfl)) (fun _ _ _ h => h) (Or.inl ⟨by rfl, ?_⟩) ?_ ?_
                                        rotate_left
                                        · intro w'
                                          go_simp
                                          first | with_reducible rfl | (rw [if_neg (by (try simp only [decide_eq_true_eq, ByteArray.size_append, ByteArray.size_extract, eq_iff_iff, iff_true, iff_false, Nat.not_lt] at *); omega)]; try with_reducible rfl)
                                        rotate_left
                                        · simp only [Act.put, List.setIfInBounds_toArray, List.set_cons_zero, List.set_cons_succ, i64_w, i32_w]
                                          rfl
                                        refine pure_ (i := 34) (N := some 72) (v := ?_) (a' := ?_) #[true, true, true, true, true, true, true, true, true, true, true, true, true, true, true, true, true, true, true, true, true, true, true, true, true, true, true, true, true, true, true, true, true, true, true, false, false, false, false, false, false, false] rfl rfl (any_of HT_.out (by kernel_rfl)) (fun _ _ _ h => h) (Or.inl ⟨by rfl, ?_⟩) ?_ ?_
                                        rotate_left
                                        · intro w'
                                          go_simp
                                          first | with_reducible rfl | (rw [if_neg (by (try simp only [decide_eq_true_eq, ByteArray.size_append, ByteArray.size_extract, eq_iff_iff, iff_true, iff_false, Nat.not_lt] at *); omega)]; try with_reducible rfl)
                                        rotate_left
                                        · simp only [Act.put, List.setIfInBounds_toArray, List.set_cons_zero, List.set_cons_succ, i64_w, i32_w]
                                          rfl
                                        refine pure_ (i := 35) (N := some 73) (v := ?_) (a' := ?_) #[true, true, true, true, true, true, true, true, true, true, true, true, true, true, true, true, true, true, true, true, true, true, true, true, true, true, true, true, true, true, true, true, true, true, true, true, false, false, false, false, false, false] rfl rfl (any_of HT_.out (by kernel_rfl)) (fun _ _ _ h => h) (Or.inl ⟨by rfl, ?_⟩) ?_ ?_
                                        rotate_left
                                        · intro w'
                                          go_simp
                                          first | with_reducible rfl | (rw [if_neg (by (try simp only [decide_eq_true_eq, ByteArray.size_append, ByteArray.size_extract, eq_iff_iff, iff_true, iff_false, Nat.not_lt] at *); omega)]; try with_reducible rfl)
                                        rotate_left
                                        · simp only [Act.put, List.setIfInBounds_toArray, List.set_cons_zero, List.set_cons_succ, i64_w, i32_w]
                                          rfl
                                        refine pure_ (i := 36) (N := some 74) (v := ?_) (a' := ?_) #[true, true, true, true, true, true, true, true, true, true, true, true, true, true, true, true, true, true, true, true, true, true, true, true, true, true, true, true, true, true, true, true, true, true, true, true, true, false, false, false, false, false] rfl rfl (any_of HT_.out (by kernel_rfl)) (fun _ _ _ h => h) (Or.inl ⟨by rfl, ?_⟩) ?_ ?_
                                        rotate_left
                                        · intro w'
                                          go_simp
                                          first | with_reducible rfl | (rw [if_neg (by (try simp only [decide_eq_true_eq, ByteArray.size_append, ByteArray.size_extract, eq_iff_iff, iff_true, iff_false, Nat.not_lt] at *); omega)]; try with_reducible rfl)
                                        rotate_left
                                        · simp only [Act.put, List.setIfInBounds_toArray, List.set_cons_zero, List.set_cons_succ, i64_w, i32_w]
                                          rfl
                                        refine pure_ (i := 37) (N := some 75) (v := ?_) (a' := ?_) #[true, true, true, true, true, true, true, true, true, true, true, true, true, true, true, true, true, true, true, true, true, true, true, true, true, true, true, true, true, true, true, true, true, true, true, true, true, true, false, false, false, false] rfl rfl (any_of HT_.out (by kernel_rfl)) (fun _ _ _ h => h) (Or.inl ⟨by rfl, ?_⟩) ?_ ?_
                                        rotate_left
                                        · intro w'
                                          go_simp
                                          first | with_reducible rfl | (rw [if_neg (by (try simp only [decide_eq_true_eq, ByteArray.size_append, ByteArray.size_extract, eq_iff_iff, iff_true, iff_false, Nat.not_lt] at *); omega)]; try with_reducible rfl)
                                        rotate_left
                                        · simp only [Act.put, List.setIfInBounds_toArray, List.set_cons_zero, List.set_cons_succ, i64_w, i32_w]
                                          rfl
                                        refine pure_ (i := 38) (N := some 76) (v := ?_) (a' := ?_) #[true, true, true, true, true, true, true, true, true, true, true, true, true, true, true, true, true, true, true, true, true, true, true, true, true, true, true, true, true, true, true, true, true, true, true, true, true, true, true, false, false, false] rfl rfl (any_of HT_.out (by kernel_rfl)) (fun _ _ _ h => h) (Or.inl ⟨by rfl, ?_⟩) ?_ ?_
                                        rotate_left
                                        · intro w'
                                          go_simp
                                          first | with_reducible rfl | (rw [if_neg (by (try simp only [decide_eq_true_eq, ByteArray.size_append, ByteArray.size_extract, eq_iff_iff, iff_true, iff_false, Nat.not_lt] at *); omega)]; try with_reducible rfl)
                                        rotate_left
                                        · simp only [Act.put, List.setIfInBounds_toArray, List.set_cons_zero, List.set_cons_succ, i64_w, i32_w]
                                          rfl
                                        refine one_ (i := 39) (N := some 77) #[true, true, true, true, true, true, true, true, true, true, true, true, true, true, true, true, true, true, true, true, true, true, true, true, true, true, true, true, true, true, true, true, true, true, true, true, true, true, true, true, false, false] rfl rfl (one_of HT_.out (by kernel_rfl)) (by decide) (fun K hK => ?_)
                                        refine goes_ Tryd.func11 (by kernel_rfl) rfl #[] (by first | rfl | exact wanted_on rfl rfl rfl (by first | rfl | (simp [*]; done) | (simp [*, IntKind.wrap_u32]; done))) rfl rfl (by (try simp only [List.map_toArray, List.map_cons, List.map_nil]); first | done | rfl | (simp only [List.length_drop, List.length_take]; rfl)) ?_
                                        with_reducible refine (gangwaylaw05_fixed.calls k  t257 _ A26.out).mono ?_
                                        rintro e w37 ⟨rfl, hb⟩
                                        refine ⟨_, rfl, ?_⟩
                                        have n0_ := Aside0.mk (blk_below (g := gb251) (o := .cells #[.int .i64 a0_0, .int .u64 a0_1, .int .u32 a0_2, .int .u64 a0_3, .int .u32 a0_4] 25 (0, 0)) (by (with_reducible repeat (first | refine blk_drewN ?_ _ | refine blk_drew ?_ | refine blk_alloc ?_ _)); exact BK251.out) hb)
                                        have n1_ := Aside0.mk (blk_below (g := gb254) (o := .cells #[.int .i64 a0_0, .int .u64 a0_1, .int .u32 a0_4, .int .u64 a0_3, .int .u32 a0_2] 25 (0, 0)) (by (with_reducible repeat (first | refine blk_drewN ?_ _ | refine blk_drew ?_ | refine blk_alloc ?_ _)); exact BK254.out) hb)
                                        have n2_ := Aside0.mk (below_step (by repeat (first | (with_reducible first | exact HB.out | apply below_alloc | apply pw_below_drewN | apply below_drew1 | refine below_set ?_ GE251.out | refine below_set ?_ GE254.out) | exact HB.out)) hb)
                                        clear BK251
                                        clear BK254
                                        clear HB
                                        have BK251 := n0_
                                        have BK254 := n1_
                                        have HB := n2_
                                        clear n0_ n1_ n2_
                                        (try clear hb)
                                        (try clear hb2)
                                        (try clear hk)
                                        (try clear hi)
                                        refine hK.out _ _ trivial (fun hHeld => ?_)
                                        clear hK K
                                        refine norm_ (a' := ?_) ?_ ?_
                                        rotate_left
                                        · show Act.put _ (some 77) _ = _
                                          simp only [Act.put, List.setIfInBounds_toArray, List.set_cons_zero, List.set_cons_succ, i64_w, i32_w]
                                          rfl
                                        refine pure_ (i := 40) (N := some 78) (v := ?_) (a' := ?_) #[true, true, true, true, true, true, true, true, true, true, true, true, true, true, true, true, true, true, true, true, true, true, true, true, true, true, true, true, true, true, true, true, true, true, true, true, true, true, true, true, true, false] rfl rfl (any_of HT_.out (by kernel_rfl)) (fun _ _ _ h => h) (Or.inl ⟨by rfl, ?_⟩) ?_ ?_
                                        rotate_left
                                        · intro w'
                                          go_simp
                                          first | with_reducible rfl | (rw [if_neg (by (try simp only [decide_eq_true_eq, ByteArray.size_append, ByteArray.size_extract, eq_iff_iff, iff_true, iff_false, Nat.not_lt] at *); omega)]; try with_reducible rfl)
                                        rotate_left
                                        · simp only [Act.put, List.setIfInBounds_toArray, List.set_cons_zero, List.set_cons_succ, i64_w, i32_w]
                                          rfl
                                        refine pure_ (i := 41) (N := some 2) (v := ?_) (a' := ?_) #[true, true, true, true, true, true, true, true, true, true, true, true, true, true, true, true, true, true, true, true, true, true, true, true, true, true, true, true, true, true, true, true, true, true, true, true, true, true, true, true, true, true] rfl rfl (any_of HT_.out (by kernel_rfl)) (fun _ _ _ h => h) (Or.inl ⟨by rfl, ?_⟩) ?_ ?_
                                        rotate_left
                                        · intro w'
                                          go_simp
                                          first | with_reducible rfl | (rw [if_neg (by (try simp only [decide_eq_true_eq, ByteArray.size_append, ByteArray.size_extract, eq_iff_iff, iff_true, iff_false, Nat.not_lt] at *); omega)]; try with_reducible rfl)
                                        rotate_left
                                        · simp only [Act.put, List.setIfInBounds_toArray, List.set_cons_zero, List.set_cons_succ, i64_w, i32_w]
                                          rfl
                                        refine done_ (done_of HT_.out (by kernel_rfl)) ?_
                                        try go_wp2
                                        go_ret
                                        exact ⟨by first | rfl | (simp [errW_none, errW_some] <;> rfl) | (simp [*, errW_none, errW_some] <;> rfl) | (simp [*, IntKind.wrap_u32]; done) | (simp_all [IntKind.wrap_u32]; done), by repeat (first | (with_reducible first | exact HB.out | apply below_alloc | apply pw_below_drewN | apply below_drew1 | refine below_set ?_ GE251.out | refine below_set ?_ GE254.out) | exact HB.out)⟩
                                      · rw [if_neg c25] at H
                                        have c25b0 : ((t252.extract 8 14).toList == (t255.extract 8 14).toList) = false := beq_eq_false_iff_ne.mpr c25
                                        have c25b1 : ((t252.extract 8 14).toList != (t255.extract 8 14).toList) = true := bne_iff_ne.mpr c25
                                        exact absurd H (by simp)
                                    · rw [if_neg c24] at H
                                      exact absurd H (by simp)
                                  · rw [if_neg c22] at H
                                    exact absurd H (by simp)
                                · rw [if_neg c21] at H
                                  exact absurd H (by simp)
                              · rw [if_neg c20] at H
                                have c20b0 : ((t252.extract 24 28).toList == (t255.extract 14 18).toList) = false := beq_eq_false_iff_ne.mpr c20
                                have c20b1 : ((t252.extract 24 28).toList != (t255.extract 14 18).toList) = true := bne_iff_ne.mpr c20
                                exact absurd H (by simp)
                            · rw [if_neg c19] at H
                              exact absurd H (by simp)
                          · rw [if_neg c17] at H
                            exact absurd H (by simp)
                        · rw [if_neg c15] at H
                          have c15b0 : ((t252.extract 14 18).toList == (t255.extract 24 28).toList) = false := beq_eq_false_iff_ne.mpr c15
                          have c15b1 : ((t252.extract 14 18).toList != (t255.extract 24 28).toList) = true := bne_iff_ne.mpr c15
                          exact absurd H (by simp)
                      · rw [if_neg c14] at H
                        exact absurd H (by simp)
                    · rw [if_neg c13] at H
                      exact absurd H (by simp)
                  · rw [if_neg c12] at H
                    exact absurd H (by simp)
                · rw [if_neg c11] at H
                  exact absurd H (by simp)
              · rw [if_neg c10] at H
                have c10b0 : ((t252.extract 0 6).toList == ([0, 1, 8, 0, 6, 4] : List UInt8)) = false := beq_eq_false_iff_ne.mpr c10
                have c10b1 : ((t252.extract 0 6).toList != ([0, 1, 8, 0, 6, 4] : List UInt8)) = true := bne_iff_ne.mpr c10
                exact absurd H (by simp)
            · rw [if_neg c9] at H
              exact absurd H (by simp)
          · rw [if_neg c8] at H
            exact absurd H (by simp)
        · rw [if_neg c7] at H
          have c7b0 : ((t255.size : Int) == 28) = false := beq_eq_false_iff_ne.mpr c7
          have c7b1 : ((t255.size : Int) != 28) = true := bne_iff_ne.mpr c7
          exact absurd H (by simp)
      · rw [if_neg c6] at H
        have c6b0 : (t256 == 0) = false := beq_eq_false_iff_ne.mpr c6
        have c6b1 : (t256 != 0) = true := bne_iff_ne.mpr c6
        exact absurd H (by simp)
    · rw [if_neg c5] at H
      have c5b0 : ((t252.size : Int) == 28) = false := beq_eq_false_iff_ne.mpr c5
      have c5b1 : ((t252.size : Int) != 28) = true := bne_iff_ne.mpr c5
      exact absurd H (by simp)
  · rw [if_neg c3] at H
    have c3b0 : (t253 == 0) = false := beq_eq_false_iff_ne.mpr c3
    have c3b1 : (t253 != 0) = true := bne_iff_ne.mpr c3
    by_cases c38 : t252.toList = ([] : List UInt8)
    · rw [if_pos c38] at H
      have c38b0 : (t252.toList == ([] : List UInt8)) = true := beq_iff_eq.mpr c38
      have c38b1 : (t252.toList != ([] : List UInt8)) = false := bne_eq_false_iff_eq.mpr c38
      clear c38
      replace H := Option.bind_eq_some_iff.mp H
      obtain ⟨t258, A390, H⟩ := H
      replace H : (if t258 = t253 then ((gangwaylaw05_fixed.f k).bind fun t259 => (some t259)) else (none)) = some r := H
      have A39 := Aside0.mk A390
      clear A390
      by_cases c40 : t258 = t253
      · rw [if_pos c40] at H
        have c40b0 : (t258 == t253) = true := beq_iff_eq.mpr c40
        have c40b1 : (t258 != t253) = false := bne_eq_false_iff_eq.mpr c40
        clear c40
        replace H := Option.bind_eq_some_iff.mp H
        obtain ⟨t259, A410, H⟩ := H
        replace H : (some t259) = some r := H
        have A41 := Aside0.mk A410
        clear A410
        obtain rfl := Option.some.inj H
        go_enter Tryd.func5, Tryd.ntmps5
        go_wp2_with (first | ((with_reducible refine gate_dst (N := 1) rfl ?_); (try (refine gate_guard (by rfl) ?_; dsimp only)); refine box_event ?hg (N := 1) ?hd (cs := #[.int .i64 a0_0, .int .u64 a0_1, .int .u32 a0_2, .int .u64 a0_3, .int .u32 a0_4]) (t := 25) ?hr ?_; (case hd => rfl); (case hg => rfl); (case hr => first | (go_simp; done) | (go_simp; rfl)); intro gb251 hg w42 hbox hb; have n0_ := Aside0.mk (below_step (by repeat (first | (with_reducible first | exact HB.out | apply below_alloc | apply pw_below_drewN | apply below_drew1) | exact HB.out)) hb); have n1_ := Aside0.mk (hbox); have n2_ := Aside0.mk ((by rw [hg]; exact (below_size (by repeat (first | (with_reducible first | exact HB.out | apply below_alloc | apply pw_below_drewN | apply below_drew1) | exact HB.out))) : w.heap.size ≤ gb251)); have n3_ := Aside0.mk ((by rw [hg]; exact (below_size (by repeat (first | (with_reducible first | exact HB.out | apply below_alloc | apply pw_below_drewN | apply below_drew1) | exact HB.out))) : w.heap.size ≤ gb251)); clear HB; have HB := n0_; have BK251 := n1_; have GW251 := n2_; have GE251 := n3_; clear n0_ n1_ n2_ n3_; clear hb hbox hg; have hcz43_0 : w42.cell? ⟨gb251, 0, none⟩ = some (.int .i64 a0_0) := (blk_cell BK251.out 0).trans rfl; have hcz43_1 : w42.cell? ⟨gb251, 1, none⟩ = some (.int .u64 a0_1) := (blk_cell BK251.out 1).trans rfl; have hcz43_2 : w42.cell? ⟨gb251, 2, none⟩ = some (.int .u32 a0_2) := (blk_cell BK251.out 2).trans rfl; have hcz43_3 : w42.cell? ⟨gb251, 3, none⟩ = some (.int .u64 a0_3) := (blk_cell BK251.out 3).trans rfl; have hcz43_4 : w42.cell? ⟨gb251, 4, none⟩ = some (.int .u32 a0_4) := (blk_cell BK251.out 4).trans rfl; have hfz43_0 := blk_frozen BK251.out 0; have hfz43_1 := blk_frozen BK251.out 1; have hfz43_2 := blk_frozen BK251.out 2; have hfz43_3 := blk_frozen BK251.out 3; have hfz43_4 := blk_frozen BK251.out 4) | ((with_reducible refine gate_callee (f := 7) rfl ?_); refine goesL_ (some 10) rfl rfl Tryd.func7 (by kernel_rfl) rfl #[.agg #[.int .i64 a0_0, .int .u64 a0_1, .int .u32 a0_2, .int .u64 a0_3, .int .u32 a0_4]] rfl (by (try simp only [List.map_toArray, List.map_cons, List.map_nil]); first | done | rfl | (simp only [List.length_drop, List.length_take]; rfl)) ?_; (with_reducible refine (arp_Build.calls k a0_0 a0_1 a0_2 a0_3 a0_4 t252 t253 _ A2.out).mono ?_); rintro e w44 ⟨rfl, hb⟩; refine ⟨_, rfl, ?_⟩; have n0_ := Aside0.mk (blk_below (g := gb251) (o := .cells #[.int .i64 a0_0, .int .u64 a0_1, .int .u32 a0_2, .int .u64 a0_3, .int .u32 a0_4] 25 (0, 0)) (by (with_reducible repeat (first | refine blk_drewN ?_ _ | refine blk_drew ?_ | refine blk_alloc ?_ _)); exact BK251.out) hb); have n1_ := Aside0.mk (below_step (by repeat (first | (with_reducible first | exact HB.out | apply below_alloc | apply pw_below_drewN | apply below_drew1 | refine below_set ?_ GE251.out) | exact HB.out)) hb); clear BK251; clear HB; have BK251 := n0_; have HB := n1_; clear n0_ n1_; have hcy1_251_0 := (show World.cell? _ ⟨gb251, 0, none⟩ = some (.int .i64 a0_0) from (blk_cell BK251.out 0).trans rfl); have hcy1_251_1 := (show World.cell? _ ⟨gb251, 1, none⟩ = some (.int .u64 a0_1) from (blk_cell BK251.out 1).trans rfl); have hcy1_251_2 := (show World.cell? _ ⟨gb251, 2, none⟩ = some (.int .u32 a0_2) from (blk_cell BK251.out 2).trans rfl); have hcy1_251_3 := (show World.cell? _ ⟨gb251, 3, none⟩ = some (.int .u64 a0_3) from (blk_cell BK251.out 3).trans rfl); have hcy1_251_4 := (show World.cell? _ ⟨gb251, 4, none⟩ = some (.int .u32 a0_4) from (blk_cell BK251.out 4).trans rfl); (try clear hb); (try clear hb2); (try clear hk); (try clear hi); have hcz45_0 : w44.cell? ⟨gb251, 0, none⟩ = some (.int .i64 a0_0) := (blk_cell BK251.out 0).trans rfl; have hcz45_1 : w44.cell? ⟨gb251, 1, none⟩ = some (.int .u64 a0_1) := (blk_cell BK251.out 1).trans rfl; have hcz45_2 : w44.cell? ⟨gb251, 2, none⟩ = some (.int .u32 a0_2) := (blk_cell BK251.out 2).trans rfl; have hcz45_3 : w44.cell? ⟨gb251, 3, none⟩ = some (.int .u64 a0_3) := (blk_cell BK251.out 3).trans rfl; have hcz45_4 : w44.cell? ⟨gb251, 4, none⟩ = some (.int .u32 a0_4) := (blk_cell BK251.out 4).trans rfl; have hfz45_0 := blk_frozen BK251.out 0; have hfz45_1 := blk_frozen BK251.out 1; have hfz45_2 := blk_frozen BK251.out 2; have hfz45_3 := blk_frozen BK251.out 3; have hfz45_4 := blk_frozen BK251.out 4) | (go_at_call 12; (with_reducible refine (arp_Check.calls a0_0 a0_1 a0_2 a0_3 a0_4 t258 _ A39.out).mono ?_); rintro e w46 ⟨rfl, hb⟩; have n0_ := Aside0.mk (blk_below (g := gb251) (o := .cells #[.int .i64 a0_0, .int .u64 a0_1, .int .u32 a0_2, .int .u64 a0_3, .int .u32 a0_4] 25 (0, 0)) (by (with_reducible repeat (first | refine blk_drewN ?_ _ | refine blk_drew ?_ | refine blk_alloc ?_ _)); exact BK251.out) hb); have n1_ := Aside0.mk (below_step (by repeat (first | (with_reducible first | exact HB.out | apply below_alloc | apply pw_below_drewN | apply below_drew1 | refine below_set ?_ GE251.out) | exact HB.out)) hb); clear BK251; clear HB; have BK251 := n0_; have HB := n1_; clear n0_ n1_; have hcy2_251_0 := (show World.cell? _ ⟨gb251, 0, none⟩ = some (.int .i64 a0_0) from (blk_cell BK251.out 0).trans rfl); have hcy2_251_1 := (show World.cell? _ ⟨gb251, 1, none⟩ = some (.int .u64 a0_1) from (blk_cell BK251.out 1).trans rfl); have hcy2_251_2 := (show World.cell? _ ⟨gb251, 2, none⟩ = some (.int .u32 a0_2) from (blk_cell BK251.out 2).trans rfl); have hcy2_251_3 := (show World.cell? _ ⟨gb251, 3, none⟩ = some (.int .u64 a0_3) from (blk_cell BK251.out 3).trans rfl); have hcy2_251_4 := (show World.cell? _ ⟨gb251, 4, none⟩ = some (.int .u32 a0_4) from (blk_cell BK251.out 4).trans rfl); (try clear hb); (try clear hb2); (try clear hk); (try clear hi)) | (go_at_call 11; (with_reducible refine (gangwaylaw05_fixed.calls k  t259 _ A41.out).mono ?_); rintro e w47 ⟨rfl, hb⟩; have n0_ := Aside0.mk (blk_below (g := gb251) (o := .cells #[.int .i64 a0_0, .int .u64 a0_1, .int .u32 a0_2, .int .u64 a0_3, .int .u32 a0_4] 25 (0, 0)) (by (with_reducible repeat (first | refine blk_drewN ?_ _ | refine blk_drew ?_ | refine blk_alloc ?_ _)); exact BK251.out) hb); have n1_ := Aside0.mk (below_step (by repeat (first | (with_reducible first | exact HB.out | apply below_alloc | apply pw_below_drewN | apply below_drew1 | refine below_set ?_ GE251.out) | exact HB.out)) hb); clear BK251; clear HB; have BK251 := n0_; have HB := n1_; clear n0_ n1_; have hcy3_251_0 := (show World.cell? _ ⟨gb251, 0, none⟩ = some (.int .i64 a0_0) from (blk_cell BK251.out 0).trans rfl); have hcy3_251_1 := (show World.cell? _ ⟨gb251, 1, none⟩ = some (.int .u64 a0_1) from (blk_cell BK251.out 1).trans rfl); have hcy3_251_2 := (show World.cell? _ ⟨gb251, 2, none⟩ = some (.int .u32 a0_2) from (blk_cell BK251.out 2).trans rfl); have hcy3_251_3 := (show World.cell? _ ⟨gb251, 3, none⟩ = some (.int .u64 a0_3) from (blk_cell BK251.out 3).trans rfl); have hcy3_251_4 := (show World.cell? _ ⟨gb251, 4, none⟩ = some (.int .u32 a0_4) from (blk_cell BK251.out 4).trans rfl); (try clear hb); (try clear hb2); (try clear hk); (try clear hi)))
        go_ret
        exact ⟨by first | rfl | (simp [errW_none, errW_some] <;> rfl) | (simp [*, errW_none, errW_some] <;> rfl) | (simp [*, IntKind.wrap_u32]; done) | (simp_all [IntKind.wrap_u32]; done), by repeat (first | (with_reducible first | exact HB.out | apply below_alloc | apply pw_below_drewN | apply below_drew1 | refine below_set ?_ GE251.out) | exact HB.out)⟩
      · rw [if_neg c40] at H
        exact absurd H (by simp)
    · rw [if_neg c38] at H
      exact absurd H (by simp)

end Go.Proofs.YtjlikmonnnbnaaaDoor.P
