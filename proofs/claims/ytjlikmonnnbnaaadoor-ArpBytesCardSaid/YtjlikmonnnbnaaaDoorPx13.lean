-- Written by wip/hprint.py (this session's program) through the kit's print program; hand contracts are marked 'by hand'.
import Derived.Test.YtjlikmonnnbnaaaDoorPx0
import Derived.Test.YtjlikmonnnbnaaaDoorPx7
import Derived.Test.YtjlikmonnnbnaaaDoorPx12
namespace Go.Proofs.YtjlikmonnnbnaaaDoor.P
open Go.RowKit Go.Proofs.YtjlikmonnnbnaaaDoorW.PrintWords Go.Proofs.YtjlikmonnnbnaaaDoorW.PrintLast Go.Proofs.YtjlikmonnnbnaaaDoorW.PrintMore
attribute [local go_sem] max2_int min2_int max_two min_two max_three min_three max_four min_four   -- for this text's walks alone
set_option linter.unusedVariables false
set_option linter.unusedSimpArgs false

/-! ### gangwayref05_Parse: function 10 -/
def gangwayref05_Parse.j0 : Nat → Bool → Int → Int → Int → Int → Int → Option (Int × Int × Int × Int × Int × Int)
  | 0, _, _, _, _, _, _ => none
  | k + 1, x35, x139000, x139001, x139002, x139003, x139004 => if x35 = true then (some (0, 0, 0, 0, 0, 51)) else (some (x139000, x139001, x139002, x139003, x139004, 0))
def gangwayref05_Parse.f (k : Nat) (a0 : ByteArray) : Option (Int × Int × Int × Int × Int × Int) := if (a0.size : Int) < 28 then (some (0, 0, 0, 0, 0, 50)) else (if 6 ≤ 8 then (if 8 ≤ (a0.size : Int) then ((gangwayref01_Num.f k (a0.extract 6 8)).bind fun t133 => (if 8 ≤ 14 then (if 14 ≤ (a0.size : Int) then ((gangwayref01_Num.f k (a0.extract 8 14)).bind fun t134 => (if 14 ≤ 18 then (if 18 ≤ (a0.size : Int) then ((gangwayref01_Num.f k (a0.extract 14 18)).bind fun t135 => (if 18 ≤ 24 then (if 24 ≤ (a0.size : Int) then ((gangwayref01_Num.f k (a0.extract 18 24)).bind fun t136 => (if 24 ≤ 28 then (if 28 ≤ (a0.size : Int) then ((gangwayref01_Num.f k (a0.extract 24 28)).bind fun t137 => (if 0 ≤ 6 then (if 6 ≤ (a0.size : Int) then (if (a0.extract 0 6).toList = ([0, 1, 8, 0, 6, 4] : List UInt8) then ((gangwayref05_Check.f (wrap64 (t133)) t134 ((t135) % 4294967296) t136 ((t137) % 4294967296)).bind fun t139 => (gangwayref05_Parse.j0 k (t139 != 0) (wrap64 (t133)) t134 ((t135) % 4294967296) t136 ((t137) % 4294967296))) else (gangwayref05_Parse.j0 k true (wrap64 (t133)) t134 ((t135) % 4294967296) t136 ((t137) % 4294967296))) else (none)) else (none))) else (none)) else (none))) else (none)) else (none))) else (none)) else (none))) else (none)) else (none))) else (none)) else (none))
theorem gangwayref05_Parse.mono_l : ∀ k, (∀ y0 y1 y2 y3 y4 y5, LeO (gangwayref05_Parse.j0 k y0 y1 y2 y3 y4 y5) (gangwayref05_Parse.j0 (k + 1) y0 y1 y2 y3 y4 y5))
  | 0 => fun _ _ _ _ _ _ r h => by simp [gangwayref05_Parse.j0] at h
  | k + 1 => by
    have ih0 := gangwayref05_Parse.mono_l k
    · intro y0 y1 y2 y3 y4 y5
      unfold gangwayref05_Parse.j0
      repeat' first
      | (with_reducible exact ih0 _ _ _ _ _ _)
      | (with_reducible exact gangwayref01_Num.mono _ _)
      | (with_reducible exact LeO.refl _)
      | (with_reducible exact LeO.none _)
      | (with_reducible refine LeO.ite ?_ ?_)
      | (with_reducible refine LeO.bind ?_ (fun _ => ?_))
      | exact ih0 _ _ _ _ _ _
      | exact gangwayref01_Num.mono _ _
      | exact LeO.none _
      | refine LeO.ite ?_ ?_
      | refine LeO.bind ?_ (fun _ => ?_)
theorem gangwayref05_Parse.mono : ∀ a0 k, LeO (gangwayref05_Parse.f k a0) (gangwayref05_Parse.f (k + 1) a0) := by
  intro a0 k
  have ih0 := gangwayref05_Parse.mono_l k
  unfold gangwayref05_Parse.f
  repeat' first
      | (with_reducible exact ih0 _ _ _ _ _ _)
      | (with_reducible exact gangwayref01_Num.mono _ _)
      | (with_reducible exact LeO.refl _)
      | (with_reducible exact LeO.none _)
      | (with_reducible refine LeO.ite ?_ ?_)
      | (with_reducible refine LeO.bind ?_ (fun _ => ?_))
      | exact ih0 _ _ _ _ _ _
      | exact gangwayref01_Num.mono _ _
      | exact LeO.none _
      | refine LeO.ite ?_ ?_
      | refine LeO.bind ?_ (fun _ => ?_)
def gangwayref05_Parse.T3 : Bool × List (List Nat × List Nat) := (true, [([], []), ([0], [0]), ([1], [1]), ([2], [2]), ([], []), ([4], [4]), ([5, 2], [5]), ([], []), ([7], [7]), ([8, 6], [8]), ([9], [9]), ([], []), ([11], [11]), ([12, 9], [12]), ([], []), ([14], [14]), ([15, 13], [15]), ([16], [16]), ([3, 6, 10, 13, 17], [3, 6, 10, 13, 17]), ([], []), ([19, 18, 16, 0, 1, 2, 3, 4, 5, 6, 7, 8, 9, 10, 11, 12, 13, 14, 15, 16, 17, 18, 19], [18, 19])])
def gangwayref05_Parse.B3 : List Nat := [0, 1, 3, 7, 0, 16, 55, 0, 128, 503, 1015, 0, 2048, 7159, 0, 16384, 64503, 130039, 262143, 0, 1048575]
theorem gangwayref05_Parse.tab3 : rtab .any (opsOf Tryd.f10 3) = gangwayref05_Parse.T3 := by kernel_rfl
theorem gangwayref05_Parse.bits3 : waitsOk gangwayref05_Parse.T3.2 gangwayref05_Parse.B3 = true := by kernel_rfl
set_option maxHeartbeats 8000000 in
set_option maxRecDepth 100000 in
theorem gangwayref05_Parse.calls (k : Nat) (a0 : ByteArray) (r1 : Int) (r2 : Int) (r3 : Int) (r4 : Int) (r5 : Int) (r6 : Int) (w : World) (h : gangwayref05_Parse.f k a0 = some (r1, r2, r3, r4, r5, r6)) :
    Calls Tryd.prog 10 #[.string a0] w fun e w' => e = .returned (.tuple #[.agg #[.int .i64 r1, .int .u64 r2, .int .u32 r3, .int .u64 r4, .int .u32 r5], .int .i64 r6]) ∧ Below w.heap.size w w' := by
  have hu25 := Tryd.underlying25
  have HB := Aside0.mk (Below.refl w.heap.size w)
  have H : (if (a0.size : Int) < 28 then (some (0, 0, 0, 0, 0, 50)) else (if 6 ≤ 8 then (if 8 ≤ (a0.size : Int) then ((gangwayref01_Num.f k (a0.extract 6 8)).bind fun t133 => (if 8 ≤ 14 then (if 14 ≤ (a0.size : Int) then ((gangwayref01_Num.f k (a0.extract 8 14)).bind fun t134 => (if 14 ≤ 18 then (if 18 ≤ (a0.size : Int) then ((gangwayref01_Num.f k (a0.extract 14 18)).bind fun t135 => (if 18 ≤ 24 then (if 24 ≤ (a0.size : Int) then ((gangwayref01_Num.f k (a0.extract 18 24)).bind fun t136 => (if 24 ≤ 28 then (if 28 ≤ (a0.size : Int) then ((gangwayref01_Num.f k (a0.extract 24 28)).bind fun t137 => (if 0 ≤ 6 then (if 6 ≤ (a0.size : Int) then (if (a0.extract 0 6).toList = ([0, 1, 8, 0, 6, 4] : List UInt8) then ((gangwayref05_Check.f (wrap64 (t133)) t134 ((t135) % 4294967296) t136 ((t137) % 4294967296)).bind fun t139 => (gangwayref05_Parse.j0 k (t139 != 0) (wrap64 (t133)) t134 ((t135) % 4294967296) t136 ((t137) % 4294967296))) else (gangwayref05_Parse.j0 k true (wrap64 (t133)) t134 ((t135) % 4294967296) t136 ((t137) % 4294967296))) else (none)) else (none))) else (none)) else (none))) else (none)) else (none))) else (none)) else (none))) else (none)) else (none))) else (none)) else (none))) = some (r1, r2, r3, r4, r5, r6) := h
  clear h
  by_cases c2 : (a0.size : Int) < 28
  · rw [if_pos c2] at H
    have c2b0 : decide ((a0.size : Int) < 28) = true := decide_eq_true c2
    have c2b1 : decide (a0.size < 28) = true := decide_eq_true (by omega)
    clear c2
    simp only [Option.some.injEq, Prod.mk.injEq] at H
    obtain ⟨rfl, rfl, rfl, rfl, rfl, rfl⟩ := H
    go_enter Tryd.func10, Tryd.ntmps10
    go_wp2_with (first | ((with_reducible refine gate_dst (N := 2) rfl ?_); refine box_event ?hg (N := 2) ?hd (cs := #[.int .i64 0, .int .u64 0, .int .u32 0, .int .u64 0, .int .u32 0]) (t := 25) ?hr ?_; (case hd => rfl); (case hg => rfl); (case hr => first | (go_simp; done) | (go_simp; rfl)); intro gb132 hg w3 hbox hb; have n0_ := Aside0.mk (below_step (by repeat (first | (with_reducible first | exact HB.out | apply below_alloc | apply pw_below_drewN | apply below_drew1) | exact HB.out)) hb); have n1_ := Aside0.mk (hbox); have n2_ := Aside0.mk ((by rw [hg]; exact (below_size (by repeat (first | (with_reducible first | exact HB.out | apply below_alloc | apply pw_below_drewN | apply below_drew1) | exact HB.out))) : w.heap.size ≤ gb132)); have n3_ := Aside0.mk ((by rw [hg]; exact (below_size (by repeat (first | (with_reducible first | exact HB.out | apply below_alloc | apply pw_below_drewN | apply below_drew1) | exact HB.out))) : w.heap.size ≤ gb132)); clear HB; have HB := n0_; have BK132 := n1_; have GW132 := n2_; have GE132 := n3_; clear n0_ n1_ n2_ n3_; clear hb hbox hg; have hcz4_0 : w3.cell? ⟨gb132, 0, none⟩ = some (.int .i64 0) := (blk_cell BK132.out 0).trans rfl; have hcz4_1 : w3.cell? ⟨gb132, 1, none⟩ = some (.int .u64 0) := (blk_cell BK132.out 1).trans rfl; have hcz4_2 : w3.cell? ⟨gb132, 2, none⟩ = some (.int .u32 0) := (blk_cell BK132.out 2).trans rfl; have hcz4_3 : w3.cell? ⟨gb132, 3, none⟩ = some (.int .u64 0) := (blk_cell BK132.out 3).trans rfl; have hcz4_4 : w3.cell? ⟨gb132, 4, none⟩ = some (.int .u32 0) := (blk_cell BK132.out 4).trans rfl; have hfz4_0 := blk_frozen BK132.out 0; have hfz4_1 := blk_frozen BK132.out 1; have hfz4_2 := blk_frozen BK132.out 2; have hfz4_3 := blk_frozen BK132.out 3; have hfz4_4 := blk_frozen BK132.out 4))
    refine bodyPost_ret (results_ct rfl _ _ gb132 25 #[.int .i64 0, .int .u64 0, .int .u32 0, .int .u64 0, .int .u32 0] (0, 0) _ rfl (by (with_reducible repeat (first | refine blk_drewN ?_ _ | refine blk_drew ?_ | refine blk_alloc ?_ _)); refine blk_put (cs := #[.int .i64 0, .int .u64 0, .int .u32 0, .int .u64 0, .int .u32 0]) ?_ 4 _ rfl; (with_reducible repeat (first | refine blk_drewN ?_ _ | refine blk_drew ?_ | refine blk_alloc ?_ _)); refine blk_put (cs := #[.int .i64 0, .int .u64 0, .int .u32 0, .int .u64 0, .int .u32 0]) ?_ 3 _ rfl; (with_reducible repeat (first | refine blk_drewN ?_ _ | refine blk_drew ?_ | refine blk_alloc ?_ _)); refine blk_put (cs := #[.int .i64 0, .int .u64 0, .int .u32 0, .int .u64 0, .int .u32 0]) ?_ 2 _ rfl; (with_reducible repeat (first | refine blk_drewN ?_ _ | refine blk_drew ?_ | refine blk_alloc ?_ _)); refine blk_put (cs := #[.int .i64 0, .int .u64 0, .int .u32 0, .int .u64 0, .int .u32 0]) ?_ 1 _ rfl; (with_reducible repeat (first | refine blk_drewN ?_ _ | refine blk_drew ?_ | refine blk_alloc ?_ _)); refine blk_put (cs := #[.int .i64 0, .int .u64 0, .int .u32 0, .int .u64 0, .int .u32 0]) ?_ 0 _ rfl; (with_reducible repeat (first | refine blk_drewN ?_ _ | refine blk_drew ?_ | refine blk_alloc ?_ _)); exact BK132.out) Tryd.underlying25 rfl (by kernel_rfl)) rfl ?_
    exact ⟨by first | rfl | (simp [errW_none, errW_some] <;> rfl) | (simp [*, errW_none, errW_some] <;> rfl) | (simp [*, IntKind.wrap_u32]; done) | (simp_all [IntKind.wrap_u32]; done), by repeat (first | (with_reducible first | exact HB.out | apply below_alloc | apply pw_below_drewN | apply below_drew1 | refine below_set ?_ GE132.out) | exact HB.out)⟩
  · rw [if_neg c2] at H
    have c2b0 : decide ((a0.size : Int) < 28) = false := decide_eq_false c2
    have c2b1 : decide (a0.size < 28) = false := decide_eq_false (by omega)
    clear c2
    by_cases c5 : 6 ≤ 8
    · rw [if_pos c5] at H
      have c5b0 := eq_true c5
      have c5b1 : decide (6 ≤ 8) = true := decide_eq_true c5
      clear c5
      by_cases c6 : 8 ≤ (a0.size : Int)
      · rw [if_pos c6] at H
        have c6b0 := eq_true c6
        have c6b1 : decide (8 ≤ (a0.size : Int)) = true := decide_eq_true c6
        clear c6
        replace H := Option.bind_eq_some_iff.mp H
        obtain ⟨t133, A70, H⟩ := H
        replace H : (if 8 ≤ 14 then (if 14 ≤ (a0.size : Int) then ((gangwayref01_Num.f k (a0.extract 8 14)).bind fun t134 => (if 14 ≤ 18 then (if 18 ≤ (a0.size : Int) then ((gangwayref01_Num.f k (a0.extract 14 18)).bind fun t135 => (if 18 ≤ 24 then (if 24 ≤ (a0.size : Int) then ((gangwayref01_Num.f k (a0.extract 18 24)).bind fun t136 => (if 24 ≤ 28 then (if 28 ≤ (a0.size : Int) then ((gangwayref01_Num.f k (a0.extract 24 28)).bind fun t137 => (if 0 ≤ 6 then (if 6 ≤ (a0.size : Int) then (if (a0.extract 0 6).toList = ([0, 1, 8, 0, 6, 4] : List UInt8) then ((gangwayref05_Check.f (wrap64 (t133)) t134 ((t135) % 4294967296) t136 ((t137) % 4294967296)).bind fun t139 => (gangwayref05_Parse.j0 k (t139 != 0) (wrap64 (t133)) t134 ((t135) % 4294967296) t136 ((t137) % 4294967296))) else (gangwayref05_Parse.j0 k true (wrap64 (t133)) t134 ((t135) % 4294967296) t136 ((t137) % 4294967296))) else (none)) else (none))) else (none)) else (none))) else (none)) else (none))) else (none)) else (none))) else (none)) else (none)) = some (r1, r2, r3, r4, r5, r6) := H
        have A7 := Aside0.mk A70
        clear A70
        by_cases c8 : 8 ≤ 14
        · rw [if_pos c8] at H
          have c8b0 := eq_true c8
          have c8b1 : decide (8 ≤ 14) = true := decide_eq_true c8
          clear c8
          by_cases c9 : 14 ≤ (a0.size : Int)
          · rw [if_pos c9] at H
            have c9b0 := eq_true c9
            have c9b1 : decide (14 ≤ (a0.size : Int)) = true := decide_eq_true c9
            clear c9
            replace H := Option.bind_eq_some_iff.mp H
            obtain ⟨t134, A100, H⟩ := H
            replace H : (if 14 ≤ 18 then (if 18 ≤ (a0.size : Int) then ((gangwayref01_Num.f k (a0.extract 14 18)).bind fun t135 => (if 18 ≤ 24 then (if 24 ≤ (a0.size : Int) then ((gangwayref01_Num.f k (a0.extract 18 24)).bind fun t136 => (if 24 ≤ 28 then (if 28 ≤ (a0.size : Int) then ((gangwayref01_Num.f k (a0.extract 24 28)).bind fun t137 => (if 0 ≤ 6 then (if 6 ≤ (a0.size : Int) then (if (a0.extract 0 6).toList = ([0, 1, 8, 0, 6, 4] : List UInt8) then ((gangwayref05_Check.f (wrap64 (t133)) t134 ((t135) % 4294967296) t136 ((t137) % 4294967296)).bind fun t139 => (gangwayref05_Parse.j0 k (t139 != 0) (wrap64 (t133)) t134 ((t135) % 4294967296) t136 ((t137) % 4294967296))) else (gangwayref05_Parse.j0 k true (wrap64 (t133)) t134 ((t135) % 4294967296) t136 ((t137) % 4294967296))) else (none)) else (none))) else (none)) else (none))) else (none)) else (none))) else (none)) else (none)) = some (r1, r2, r3, r4, r5, r6) := H
            have A10 := Aside0.mk A100
            clear A100
            by_cases c11 : 14 ≤ 18
            · rw [if_pos c11] at H
              have c11b0 := eq_true c11
              have c11b1 : decide (14 ≤ 18) = true := decide_eq_true c11
              clear c11
              by_cases c12 : 18 ≤ (a0.size : Int)
              · rw [if_pos c12] at H
                have c12b0 := eq_true c12
                have c12b1 : decide (18 ≤ (a0.size : Int)) = true := decide_eq_true c12
                clear c12
                replace H := Option.bind_eq_some_iff.mp H
                obtain ⟨t135, A130, H⟩ := H
                replace H : (if 18 ≤ 24 then (if 24 ≤ (a0.size : Int) then ((gangwayref01_Num.f k (a0.extract 18 24)).bind fun t136 => (if 24 ≤ 28 then (if 28 ≤ (a0.size : Int) then ((gangwayref01_Num.f k (a0.extract 24 28)).bind fun t137 => (if 0 ≤ 6 then (if 6 ≤ (a0.size : Int) then (if (a0.extract 0 6).toList = ([0, 1, 8, 0, 6, 4] : List UInt8) then ((gangwayref05_Check.f (wrap64 (t133)) t134 ((t135) % 4294967296) t136 ((t137) % 4294967296)).bind fun t139 => (gangwayref05_Parse.j0 k (t139 != 0) (wrap64 (t133)) t134 ((t135) % 4294967296) t136 ((t137) % 4294967296))) else (gangwayref05_Parse.j0 k true (wrap64 (t133)) t134 ((t135) % 4294967296) t136 ((t137) % 4294967296))) else (none)) else (none))) else (none)) else (none))) else (none)) else (none)) = some (r1, r2, r3, r4, r5, r6) := H
                have A13 := Aside0.mk A130
                clear A130
                by_cases c14 : 18 ≤ 24
                · rw [if_pos c14] at H
                  have c14b0 := eq_true c14
                  have c14b1 : decide (18 ≤ 24) = true := decide_eq_true c14
                  clear c14
                  by_cases c15 : 24 ≤ (a0.size : Int)
                  · rw [if_pos c15] at H
                    have c15b0 := eq_true c15
                    have c15b1 : decide (24 ≤ (a0.size : Int)) = true := decide_eq_true c15
                    clear c15
                    replace H := Option.bind_eq_some_iff.mp H
                    obtain ⟨t136, A160, H⟩ := H
                    replace H : (if 24 ≤ 28 then (if 28 ≤ (a0.size : Int) then ((gangwayref01_Num.f k (a0.extract 24 28)).bind fun t137 => (if 0 ≤ 6 then (if 6 ≤ (a0.size : Int) then (if (a0.extract 0 6).toList = ([0, 1, 8, 0, 6, 4] : List UInt8) then ((gangwayref05_Check.f (wrap64 (t133)) t134 ((t135) % 4294967296) t136 ((t137) % 4294967296)).bind fun t139 => (gangwayref05_Parse.j0 k (t139 != 0) (wrap64 (t133)) t134 ((t135) % 4294967296) t136 ((t137) % 4294967296))) else (gangwayref05_Parse.j0 k true (wrap64 (t133)) t134 ((t135) % 4294967296) t136 ((t137) % 4294967296))) else (none)) else (none))) else (none)) else (none)) = some (r1, r2, r3, r4, r5, r6) := H
                    have A16 := Aside0.mk A160
                    clear A160
                    by_cases c17 : 24 ≤ 28
                    · rw [if_pos c17] at H
                      have c17b0 := eq_true c17
                      have c17b1 : decide (24 ≤ 28) = true := decide_eq_true c17
                      clear c17
                      by_cases c18 : 28 ≤ (a0.size : Int)
                      · rw [if_pos c18] at H
                        have c18b0 := eq_true c18
                        have c18b1 : decide (28 ≤ (a0.size : Int)) = true := decide_eq_true c18
                        clear c18
                        replace H := Option.bind_eq_some_iff.mp H
                        obtain ⟨t137, A190, H⟩ := H
                        replace H : (if 0 ≤ 6 then (if 6 ≤ (a0.size : Int) then (if (a0.extract 0 6).toList = ([0, 1, 8, 0, 6, 4] : List UInt8) then ((gangwayref05_Check.f (wrap64 (t133)) t134 ((t135) % 4294967296) t136 ((t137) % 4294967296)).bind fun t139 => (gangwayref05_Parse.j0 k (t139 != 0) (wrap64 (t133)) t134 ((t135) % 4294967296) t136 ((t137) % 4294967296))) else (gangwayref05_Parse.j0 k true (wrap64 (t133)) t134 ((t135) % 4294967296) t136 ((t137) % 4294967296))) else (none)) else (none)) = some (r1, r2, r3, r4, r5, r6) := H
                        have A19 := Aside0.mk A190
                        clear A190
                        have HC20 := Aside0.mk H
                        clear H
                        go_enter Tryd.func10, Tryd.ntmps10
                        try go_wp2_with (first | ((with_reducible refine gate_dst (N := 2) rfl ?_); refine box_event ?hg (N := 2) ?hd (cs := #[.int .i64 0, .int .u64 0, .int .u32 0, .int .u64 0, .int .u32 0]) (t := 25) ?hr ?_; (case hd => rfl); (case hg => rfl); (case hr => first | (go_simp; done) | (go_simp; rfl)); intro gb132 hg w21 hbox hb; have n0_ := Aside0.mk (below_step (by repeat (first | (with_reducible first | exact HB.out | apply below_alloc | apply pw_below_drewN | apply below_drew1) | exact HB.out)) hb); have n1_ := Aside0.mk (hbox); have n2_ := Aside0.mk ((by rw [hg]; exact (below_size (by repeat (first | (with_reducible first | exact HB.out | apply below_alloc | apply pw_below_drewN | apply below_drew1) | exact HB.out))) : w.heap.size ≤ gb132)); have n3_ := Aside0.mk ((by rw [hg]; exact (below_size (by repeat (first | (with_reducible first | exact HB.out | apply below_alloc | apply pw_below_drewN | apply below_drew1) | exact HB.out))) : w.heap.size ≤ gb132)); clear HB; have HB := n0_; have BK132 := n1_; have GW132 := n2_; have GE132 := n3_; clear n0_ n1_ n2_ n3_; clear hb hbox hg))
                        have n0_ := Aside0.mk (blk_drew BK132.out)
                        have n1_ := Aside0.mk (below_drew1 HB.out)
                        clear BK132
                        clear HB
                        have BK132 := n0_
                        have HB := n1_
                        clear n0_ n1_
                        refine start_ (n := 21) (S := fun w' => True) (ds := []) #[false, false, false, false, false, false, false, false, false, false, false, false, false, false, false, false, false, false, false, false, false] (by kernel_rfl) rfl rfl trivial (fun hHeld => ?_); refine with_tabW gangwayref05_Parse.tab3 gangwayref05_Parse.bits3 (fun HT_ HW_ => ?_)
                        generalize w21.drew = w22 at BK132 HB hHeld ⊢
                        refine pure_ (i := 0) (N := some 9) (v := ?_) (a' := ?_) #[true, false, false, false, false, false, false, false, false, false, false, false, false, false, false, false, false, false, false, false, false] rfl rfl (any_of HT_.out (by kernel_rfl)) (fun _ _ _ h => h) (Or.inl ⟨by rfl, ?_⟩) ?_ ?_
                        rotate_left
                        · intro w'
                          go_simp
                          first | with_reducible rfl | (rw [if_neg (by (try simp only [decide_eq_true_eq, ByteArray.size_append, ByteArray.size_extract, eq_iff_iff, iff_true, iff_false, Nat.not_lt] at *); omega)]; try with_reducible rfl)
                        rotate_left
                        · simp only [Act.put, List.setIfInBounds_toArray, List.set_cons_zero, List.set_cons_succ, i64_w, i32_w]
                          rfl
                        refine pure_ (i := 1) (N := some 10) (v := ?_) (a' := ?_) #[true, true, false, false, false, false, false, false, false, false, false, false, false, false, false, false, false, false, false, false, false] rfl rfl (any_of HT_.out (by kernel_rfl)) (fun _ _ _ h => h) (Or.inl ⟨by rfl, ?_⟩) ?_ ?_
                        rotate_left
                        · intro w'
                          go_simp
                          first | with_reducible rfl | (rw [if_neg (by (try simp only [decide_eq_true_eq, ByteArray.size_append, ByteArray.size_extract, eq_iff_iff, iff_true, iff_false, Nat.not_lt] at *); omega)]; try with_reducible rfl)
                        rotate_left
                        · simp only [Act.put, List.setIfInBounds_toArray, List.set_cons_zero, List.set_cons_succ, i64_w, i32_w]
                          rfl
                        refine pure_ (i := 4) (N := some 13) (v := ?_) (a' := ?_) #[true, true, false, false, true, false, false, false, false, false, false, false, false, false, false, false, false, false, false, false, false] rfl rfl (any_of HT_.out (by kernel_rfl)) (fun _ _ _ h => h) (Or.inl ⟨by rfl, ?_⟩) ?_ ?_
                        rotate_left
                        · intro w'
                          go_simp
                          first | with_reducible rfl | (rw [if_neg (by (try simp only [decide_eq_true_eq, ByteArray.size_append, ByteArray.size_extract, eq_iff_iff, iff_true, iff_false, Nat.not_lt] at *); omega)]; try with_reducible rfl)
                        rotate_left
                        · simp only [Act.put, List.setIfInBounds_toArray, List.set_cons_zero, List.set_cons_succ, i64_w, i32_w]
                          rfl
                        refine pure_ (i := 5) (N := some 14) (v := ?_) (a' := ?_) #[true, true, false, false, true, true, false, false, false, false, false, false, false, false, false, false, false, false, false, false, false] rfl rfl (any_of HT_.out (by kernel_rfl)) (fun _ _ _ h => h) (Or.inl ⟨by rfl, ?_⟩) ?_ ?_
                        rotate_left
                        · intro w'
                          go_simp
                          first | with_reducible rfl | (rw [if_neg (by (try simp only [decide_eq_true_eq, ByteArray.size_append, ByteArray.size_extract, eq_iff_iff, iff_true, iff_false, Nat.not_lt] at *); omega)]; try with_reducible rfl)
                        rotate_left
                        · simp only [Act.put, List.setIfInBounds_toArray, List.set_cons_zero, List.set_cons_succ, i64_w, i32_w]
                          rfl
                        refine pure_ (i := 7) (N := some 16) (v := ?_) (a' := ?_) #[true, true, false, false, true, true, false, true, false, false, false, false, false, false, false, false, false, false, false, false, false] rfl rfl (any_of HT_.out (by kernel_rfl)) (fun _ _ _ h => h) (Or.inl ⟨by rfl, ?_⟩) ?_ ?_
                        rotate_left
                        · intro w'
                          go_simp
                          first | with_reducible rfl | (rw [if_neg (by (try simp only [decide_eq_true_eq, ByteArray.size_append, ByteArray.size_extract, eq_iff_iff, iff_true, iff_false, Nat.not_lt] at *); omega)]; try with_reducible rfl)
                        rotate_left
                        · simp only [Act.put, List.setIfInBounds_toArray, List.set_cons_zero, List.set_cons_succ, i64_w, i32_w]
                          rfl
                        refine pure_ (i := 8) (N := some 17) (v := ?_) (a' := ?_) #[true, true, false, false, true, true, false, true, true, false, false, false, false, false, false, false, false, false, false, false, false] rfl rfl (any_of HT_.out (by kernel_rfl)) (fun _ _ _ h => h) (Or.inl ⟨by rfl, ?_⟩) ?_ ?_
                        rotate_left
                        · intro w'
                          go_simp
                          first | with_reducible rfl | (rw [if_neg (by (try simp only [decide_eq_true_eq, ByteArray.size_append, ByteArray.size_extract, eq_iff_iff, iff_true, iff_false, Nat.not_lt] at *); omega)]; try with_reducible rfl)
                        rotate_left
                        · simp only [Act.put, List.setIfInBounds_toArray, List.set_cons_zero, List.set_cons_succ, i64_w, i32_w]
                          rfl
                        refine pure_ (i := 11) (N := some 20) (v := ?_) (a' := ?_) #[true, true, false, false, true, true, false, true, true, false, false, true, false, false, false, false, false, false, false, false, false] rfl rfl (any_of HT_.out (by kernel_rfl)) (fun _ _ _ h => h) (Or.inl ⟨by rfl, ?_⟩) ?_ ?_
                        rotate_left
                        · intro w'
                          go_simp
                          first | with_reducible rfl | (rw [if_neg (by (try simp only [decide_eq_true_eq, ByteArray.size_append, ByteArray.size_extract, eq_iff_iff, iff_true, iff_false, Nat.not_lt] at *); omega)]; try with_reducible rfl)
                        rotate_left
                        · simp only [Act.put, List.setIfInBounds_toArray, List.set_cons_zero, List.set_cons_succ, i64_w, i32_w]
                          rfl
                        refine pure_ (i := 12) (N := some 21) (v := ?_) (a' := ?_) #[true, true, false, false, true, true, false, true, true, false, false, true, true, false, false, false, false, false, false, false, false] rfl rfl (any_of HT_.out (by kernel_rfl)) (fun _ _ _ h => h) (Or.inl ⟨by rfl, ?_⟩) ?_ ?_
                        rotate_left
                        · intro w'
                          go_simp
                          first | with_reducible rfl | (rw [if_neg (by (try simp only [decide_eq_true_eq, ByteArray.size_append, ByteArray.size_extract, eq_iff_iff, iff_true, iff_false, Nat.not_lt] at *); omega)]; try with_reducible rfl)
                        rotate_left
                        · simp only [Act.put, List.setIfInBounds_toArray, List.set_cons_zero, List.set_cons_succ, i64_w, i32_w]
                          rfl
                        refine pure_ (i := 14) (N := some 23) (v := ?_) (a' := ?_) #[true, true, false, false, true, true, false, true, true, false, false, true, true, false, true, false, false, false, false, false, false] rfl rfl (any_of HT_.out (by kernel_rfl)) (fun _ _ _ h => h) (Or.inl ⟨by rfl, ?_⟩) ?_ ?_
                        rotate_left
                        · intro w'
                          go_simp
                          first | with_reducible rfl | (rw [if_neg (by (try simp only [decide_eq_true_eq, ByteArray.size_append, ByteArray.size_extract, eq_iff_iff, iff_true, iff_false, Nat.not_lt] at *); omega)]; try with_reducible rfl)
                        rotate_left
                        · simp only [Act.put, List.setIfInBounds_toArray, List.set_cons_zero, List.set_cons_succ, i64_w, i32_w]
                          rfl
                        refine pure_ (i := 15) (N := some 24) (v := ?_) (a' := ?_) #[true, true, false, false, true, true, false, true, true, false, false, true, true, false, true, true, false, false, false, false, false] rfl rfl (any_of HT_.out (by kernel_rfl)) (fun _ _ _ h => h) (Or.inl ⟨by rfl, ?_⟩) ?_ ?_
                        rotate_left
                        · intro w'
                          go_simp
                          first | with_reducible rfl | (rw [if_neg (by (try simp only [decide_eq_true_eq, ByteArray.size_append, ByteArray.size_extract, eq_iff_iff, iff_true, iff_false, Nat.not_lt] at *); omega)]; try with_reducible rfl)
                        rotate_left
                        · simp only [Act.put, List.setIfInBounds_toArray, List.set_cons_zero, List.set_cons_succ, i64_w, i32_w]
                          rfl
                        refine join_ (σ := Nat) 1 #[true, true, true, true, true, true, true, true, true, true, true, true, true, true, true, true, true, true, true, true, false] (fun s_ => [(11, .int .u64 t133), (15, .int .u64 t134), (18, .int .u64 t135), (22, .int .u64 t136), (25, .int .u64 t137), (4, .pointer (some ⟨s_, 0, none⟩)), (12, .int .i64 (wrap64 (t133))), (19, .int .u32 ((t135) % 4294967296)), (26, .int .u32 ((t137) % 4294967296)), (27, .agg #[.int .i64 (wrap64 (t133)), .int .u64 t134, .int .u32 ((t135) % 4294967296), .int .u64 t136, .int .u32 ((t137) % 4294967296)])]) (fun s_ w' => (w'.heap[gb132]? = some (.cells #[.int .i64 0, .int .u64 0, .int .u32 0, .int .u64 0, .int .u32 0] 25 (0, 0))) ∧ (w'.heap[s_]? = some (.cells #[.int .i64 0, .int .u64 0, .int .u32 0, .int .u64 0, .int .u32 0] 25 (0, 0))) ∧ (w.heap.size ≤ s_) ∧ (w.heap.size ≤ s_) ∧ (gb132 ≠ s_) ∧ (s_ ≠ gb132) ∧ (Below w.heap.size w w')) ?_ ?_
                        rotate_left
                        · intro hJ2_6_9_13_16_19
                          refine join_ (σ := Unit) 2 #[true, true, true, true, true, true, true, true, true, true, true, true, true, true, true, true, true, true, true, false, false] (fun s_ => [(11, .int .u64 t133), (15, .int .u64 t134), (18, .int .u64 t135), (22, .int .u64 t136), (25, .int .u64 t137), (12, .int .i64 (wrap64 (t133))), (19, .int .u32 ((t135) % 4294967296)), (26, .int .u32 ((t137) % 4294967296)), (27, .agg #[.int .i64 (wrap64 (t133)), .int .u64 t134, .int .u32 ((t135) % 4294967296), .int .u64 t136, .int .u32 ((t137) % 4294967296)])]) (fun s_ w' => (w'.heap[gb132]? = some (.cells #[.int .i64 0, .int .u64 0, .int .u32 0, .int .u64 0, .int .u32 0] 25 (0, 0))) ∧ (Below w.heap.size w w')) ?_ ?_
                          rotate_left
                          · intro hJ2_6_9_13_16
                            refine join_ (σ := Nat) 4 #[true, true, true, true, true, true, true, true, true, true, true, true, true, true, true, true, false, false, false, true, false] (fun s_ => [(11, .int .u64 t133), (15, .int .u64 t134), (18, .int .u64 t135), (22, .int .u64 t136), (4, .pointer (some ⟨s_, 0, none⟩)), (12, .int .i64 (wrap64 (t133))), (19, .int .u32 ((t135) % 4294967296))]) (fun s_ w' => (w'.heap[gb132]? = some (.cells #[.int .i64 0, .int .u64 0, .int .u32 0, .int .u64 0, .int .u32 0] 25 (0, 0))) ∧ (w'.heap[s_]? = some (.cells #[.int .i64 0, .int .u64 0, .int .u32 0, .int .u64 0, .int .u32 0] 25 (0, 0))) ∧ (w.heap.size ≤ s_) ∧ (w.heap.size ≤ s_) ∧ (gb132 ≠ s_) ∧ (s_ ≠ gb132) ∧ (Below w.heap.size w w')) ?_ ?_
                            rotate_left
                            · intro hJ2_6_9_13_19
                              refine join_ (σ := Unit) 5 #[true, true, true, true, true, true, true, true, true, true, true, true, true, true, true, true, false, false, false, false, false] (fun s_ => [(11, .int .u64 t133), (15, .int .u64 t134), (18, .int .u64 t135), (22, .int .u64 t136), (12, .int .i64 (wrap64 (t133))), (19, .int .u32 ((t135) % 4294967296))]) (fun s_ w' => (w'.heap[gb132]? = some (.cells #[.int .i64 0, .int .u64 0, .int .u32 0, .int .u64 0, .int .u32 0] 25 (0, 0))) ∧ (Below w.heap.size w w')) ?_ ?_
                              rotate_left
                              · intro hJ2_6_9_13
                                refine join_ (σ := Nat) 5 #[true, true, true, true, true, true, true, true, true, true, true, true, true, false, true, true, false, false, false, true, false] (fun s_ => [(11, .int .u64 t133), (15, .int .u64 t134), (18, .int .u64 t135), (4, .pointer (some ⟨s_, 0, none⟩)), (12, .int .i64 (wrap64 (t133))), (19, .int .u32 ((t135) % 4294967296))]) (fun s_ w' => (w'.heap[gb132]? = some (.cells #[.int .i64 0, .int .u64 0, .int .u32 0, .int .u64 0, .int .u32 0] 25 (0, 0))) ∧ (w'.heap[s_]? = some (.cells #[.int .i64 0, .int .u64 0, .int .u32 0, .int .u64 0, .int .u32 0] 25 (0, 0))) ∧ (w.heap.size ≤ s_) ∧ (w.heap.size ≤ s_) ∧ (gb132 ≠ s_) ∧ (s_ ≠ gb132) ∧ (Below w.heap.size w w')) ?_ ?_
                                rotate_left
                                · intro hJ2_6_9_19
                                  refine join_ (σ := Unit) 6 #[true, true, true, true, true, true, true, true, true, true, true, true, true, false, true, true, false, false, false, false, false] (fun s_ => [(11, .int .u64 t133), (15, .int .u64 t134), (18, .int .u64 t135), (12, .int .i64 (wrap64 (t133))), (19, .int .u32 ((t135) % 4294967296))]) (fun s_ w' => (w'.heap[gb132]? = some (.cells #[.int .i64 0, .int .u64 0, .int .u32 0, .int .u64 0, .int .u32 0] 25 (0, 0))) ∧ (Below w.heap.size w w')) ?_ ?_
                                  rotate_left
                                  · intro hJ2_6_9
                                    refine join_ (σ := Nat) 7 #[true, true, true, true, true, true, true, true, true, false, false, true, true, false, true, true, false, false, false, true, false] (fun s_ => [(11, .int .u64 t133), (15, .int .u64 t134), (4, .pointer (some ⟨s_, 0, none⟩)), (12, .int .i64 (wrap64 (t133)))]) (fun s_ w' => (w'.heap[gb132]? = some (.cells #[.int .i64 0, .int .u64 0, .int .u32 0, .int .u64 0, .int .u32 0] 25 (0, 0))) ∧ (w'.heap[s_]? = some (.cells #[.int .i64 0, .int .u64 0, .int .u32 0, .int .u64 0, .int .u32 0] 25 (0, 0))) ∧ (w.heap.size ≤ s_) ∧ (w.heap.size ≤ s_) ∧ (gb132 ≠ s_) ∧ (s_ ≠ gb132) ∧ (Below w.heap.size w w')) ?_ ?_
                                    rotate_left
                                    · intro hJ2_6_19
                                      refine join_ (σ := Unit) 8 #[true, true, true, true, true, true, true, true, true, false, false, true, true, false, true, true, false, false, false, false, false] (fun s_ => [(11, .int .u64 t133), (15, .int .u64 t134), (12, .int .i64 (wrap64 (t133)))]) (fun s_ w' => (w'.heap[gb132]? = some (.cells #[.int .i64 0, .int .u64 0, .int .u32 0, .int .u64 0, .int .u32 0] 25 (0, 0))) ∧ (Below w.heap.size w w')) ?_ ?_
                                      rotate_left
                                      · intro hJ2_6
                                        refine join_ (σ := Nat) 8 #[true, true, true, true, true, true, false, true, true, false, false, true, true, false, true, true, false, false, false, true, false] (fun s_ => [(11, .int .u64 t133), (4, .pointer (some ⟨s_, 0, none⟩)), (12, .int .i64 (wrap64 (t133)))]) (fun s_ w' => (w'.heap[gb132]? = some (.cells #[.int .i64 0, .int .u64 0, .int .u32 0, .int .u64 0, .int .u32 0] 25 (0, 0))) ∧ (w'.heap[s_]? = some (.cells #[.int .i64 0, .int .u64 0, .int .u32 0, .int .u64 0, .int .u32 0] 25 (0, 0))) ∧ (w.heap.size ≤ s_) ∧ (w.heap.size ≤ s_) ∧ (gb132 ≠ s_) ∧ (s_ ≠ gb132) ∧ (Below w.heap.size w w')) ?_ ?_
                                        rotate_left
                                        · intro hJ2_19
                                          refine join_ (σ := Unit) 9 #[true, true, true, true, true, true, false, true, true, false, false, true, true, false, true, true, false, false, false, false, false] (fun s_ => [(11, .int .u64 t133), (12, .int .i64 (wrap64 (t133)))]) (fun s_ w' => (w'.heap[gb132]? = some (.cells #[.int .i64 0, .int .u64 0, .int .u32 0, .int .u64 0, .int .u32 0] 25 (0, 0))) ∧ (Below w.heap.size w w')) ?_ ?_
                                          rotate_left
                                          · intro hJ2
                                            refine join_ (σ := Nat) 10 #[true, true, false, false, true, true, false, true, true, false, false, true, true, false, true, true, false, false, false, true, false] (fun s_ => [(4, .pointer (some ⟨s_, 0, none⟩))]) (fun s_ w' => (w'.heap[gb132]? = some (.cells #[.int .i64 0, .int .u64 0, .int .u32 0, .int .u64 0, .int .u32 0] 25 (0, 0))) ∧ (w'.heap[s_]? = some (.cells #[.int .i64 0, .int .u64 0, .int .u32 0, .int .u64 0, .int .u32 0] 25 (0, 0))) ∧ (w.heap.size ≤ s_) ∧ (w.heap.size ≤ s_) ∧ (gb132 ≠ s_) ∧ (s_ ≠ gb132) ∧ (Below w.heap.size w w')) ?_ ?_
                                            rotate_left
                                            · intro hJ19
                                              refine two_ (i := 2) (j := 19) (Ni := some 11) (Nj := some 4) #[true, true, true, false, true, true, false, true, true, false, false, true, true, false, true, true, false, false, false, false, false] #[true, true, false, false, true, true, false, true, true, false, false, true, true, false, true, true, false, false, false, true, false] rfl rfl rfl rfl (two_of HT_.out (by kernel_rfl)) (by decide) (by decide) (fun K hK => ?_) (fun K hK => ?_)
                                              · skip
                                                refine goes_ Tryd.func24 (by kernel_rfl) rfl #[.string (a0.extract 6 8)] (by first | rfl | exact wanted_on rfl rfl rfl (by first | rfl | (simp [*]; done) | (simp [*, IntKind.wrap_u32]; done))) rfl rfl (by (try simp only [List.map_toArray, List.map_cons, List.map_nil]); first | done | rfl | (simp only [List.length_drop, List.length_take]; rfl)) ?_
                                                with_reducible refine (gangwayref01_Num.calls k (a0.extract 6 8) t133 _ A7.out).mono ?_
                                                rintro e w' ⟨rfl, ⟨nd, rfl⟩⟩
                                                refine ⟨_, rfl, ?_⟩
                                                refine hK.out _ _ trivial (fun hHeld => ?_)
                                                clear hK K
                                                refine norm_ (a' := ?_) ?_ ?_
                                                rotate_left
                                                · show Act.put _ (some 11) _ = _
                                                  simp only [Act.put, List.setIfInBounds_toArray, List.set_cons_zero, List.set_cons_succ, i64_w, i32_w]
                                                  rfl
                                                refine pure_ (i := 3) (N := some 12) (v := ?_) (a' := ?_) #[true, true, true, true, true, true, false, true, true, false, false, true, true, false, true, true, false, false, false, false, false] rfl rfl (any_of HT_.out (by kernel_rfl)) (fun _ _ _ h => h) (Or.inl ⟨by rfl, ?_⟩) ?_ ?_
                                                rotate_left
                                                · intro w'
                                                  go_simp
                                                  first | with_reducible rfl | (rw [if_neg (by (try simp only [decide_eq_true_eq, ByteArray.size_append, ByteArray.size_extract, eq_iff_iff, iff_true, iff_false, Nat.not_lt] at *); omega)]; try with_reducible rfl)
                                                rotate_left
                                                · simp only [Act.put, List.setIfInBounds_toArray, List.set_cons_zero, List.set_cons_succ, i64_w, i32_w]
                                                  rfl
                                                exact norm_ (by first | (simp only [putAll, Act.put, List.setIfInBounds_toArray, List.set_cons_zero, List.set_cons_succ]; done) | (simp only [putAll, Act.put, List.setIfInBounds_toArray, List.set_cons_zero, List.set_cons_succ]; rfl)) (hJ2 () _ ⟨(by (with_reducible repeat (first | refine blk_drewN ?_ _ | refine blk_drew ?_ | refine blk_alloc ?_ _)); exact BK132.out), (by repeat (first | (with_reducible first | exact HB.out | apply below_alloc | apply pw_below_drewN | apply below_drew1 | refine below_set ?_ GE132.out) | exact HB.out))⟩)
                                              · skip
                                                refine box_step ?hg (N := 4) ?hd (cs := #[.int .i64 0, .int .u64 0, .int .u32 0, .int .u64 0, .int .u32 0]) (t := 25) ?hr ?_; (case hd => rfl); (case hg => rfl); (case hr => first | (go_simp; done) | (go_simp; rfl))
                                                intro gb138 hg w23 hbox hb
                                                have n0_ := Aside0.mk (blk_below (g := gb132) (o := .cells #[.int .i64 0, .int .u64 0, .int .u32 0, .int .u64 0, .int .u32 0] 25 (0, 0)) (by (with_reducible repeat (first | refine blk_drewN ?_ _ | refine blk_drew ?_ | refine blk_alloc ?_ _)); exact BK132.out) hb)
                                                have n1_ := Aside0.mk (below_step (by repeat (first | (with_reducible first | exact HB.out | apply below_alloc | apply pw_below_drewN | apply below_drew1 | refine below_set ?_ GE132.out) | exact HB.out)) hb)
                                                have n2_ := Aside0.mk (hbox)
                                                have n3_ := Aside0.mk ((by rw [hg]; exact (below_size (by repeat (first | (with_reducible first | exact HB.out | apply below_alloc | apply pw_below_drewN | apply below_drew1 | refine below_set ?_ GE132.out) | exact HB.out))) : w.heap.size ≤ gb138))
                                                have n4_ := Aside0.mk ((by rw [hg]; exact (below_size (by repeat (first | (with_reducible first | exact HB.out | apply below_alloc | apply pw_below_drewN | apply below_drew1 | refine below_set ?_ GE132.out) | exact HB.out))) : w.heap.size ≤ gb138))
                                                have n5_ := Aside0.mk ((by rw [hg]; exact Nat.ne_of_lt (blk_lt (g := gb132) (o := .cells #[.int .i64 0, .int .u64 0, .int .u32 0, .int .u64 0, .int .u32 0] 25 (0, 0)) (by (with_reducible repeat (first | refine blk_drewN ?_ _ | refine blk_drew ?_ | refine blk_alloc ?_ _)); exact BK132.out)) : gb132 ≠ gb138))
                                                have n6_ := Aside0.mk ((by rw [hg]; exact Nat.ne_of_gt (blk_lt (g := gb132) (o := .cells #[.int .i64 0, .int .u64 0, .int .u32 0, .int .u64 0, .int .u32 0] 25 (0, 0)) (by (with_reducible repeat (first | refine blk_drewN ?_ _ | refine blk_drew ?_ | refine blk_alloc ?_ _)); exact BK132.out)) : gb138 ≠ gb132))
                                                clear BK132
                                                clear HB
                                                have BK132 := n0_
                                                have HB := n1_
                                                have BK138 := n2_
                                                have GW138 := n3_
                                                have GE138 := n4_
                                                have NB132_138 := n5_
                                                have NB138_132 := n6_
                                                clear n0_ n1_ n2_ n3_ n4_ n5_ n6_
                                                clear hb hbox hg
                                                refine hK.out _ _ trivial (fun hHeld => ?_)
                                                clear hK K
                                                refine norm_ (a' := ?_) ?_ ?_
                                                rotate_left
                                                · show Act.put _ (some 4) _ = _
                                                  simp only [Act.put, List.setIfInBounds_toArray, List.set_cons_zero, List.set_cons_succ, i64_w, i32_w]
                                                  rfl
                                                exact norm_ (by first | (simp only [putAll, Act.put, List.setIfInBounds_toArray, List.set_cons_zero, List.set_cons_succ]; done) | (simp only [putAll, Act.put, List.setIfInBounds_toArray, List.set_cons_zero, List.set_cons_succ]; rfl)) (hJ19 (gb138) _ ⟨(by (with_reducible repeat (first | refine blk_drewN ?_ _ | refine blk_drew ?_ | refine blk_alloc ?_ _)); exact BK132.out), (by (with_reducible repeat (first | refine blk_drewN ?_ _ | refine blk_drew ?_ | refine blk_alloc ?_ _)); exact BK138.out), GW138.out, GE138.out, NB132_138.out, NB138_132.out, (by repeat (first | (with_reducible first | exact HB.out | apply below_alloc | apply pw_below_drewN | apply below_drew1 | refine below_set ?_ GE132.out | refine below_set ?_ GE138.out) | exact HB.out))⟩)
                                            · skip
                                              rintro gb138 w24 ⟨h0_, h1_, h2_, h3_, h4_, h5_, h6_⟩
                                              have n0_ : Aside0 (w24.heap[gb132]? = some (.cells #[.int .i64 0, .int .u64 0, .int .u32 0, .int .u64 0, .int .u32 0] 25 (0, 0))) := ⟨h0_⟩
                                              have n1_ : Aside0 (w24.heap[gb138]? = some (.cells #[.int .i64 0, .int .u64 0, .int .u32 0, .int .u64 0, .int .u32 0] 25 (0, 0))) := ⟨h1_⟩
                                              have n2_ : Aside0 (w.heap.size ≤ gb138) := ⟨h2_⟩
                                              have n3_ : Aside0 (w.heap.size ≤ gb138) := ⟨h3_⟩
                                              have n4_ : Aside0 (gb132 ≠ gb138) := ⟨h4_⟩
                                              have n5_ : Aside0 (gb138 ≠ gb132) := ⟨h5_⟩
                                              have n6_ : Aside0 (Below w.heap.size w w24) := ⟨h6_⟩
                                              clear BK132
                                              clear HB
                                              clear h0_ h1_ h2_ h3_ h4_ h5_ h6_
                                              have BK132 := n0_
                                              have BK138 := n1_
                                              have GW138 := n2_
                                              have GE138 := n3_
                                              have NB132_138 := n4_
                                              have NB138_132 := n5_
                                              have HB := n6_
                                              clear n0_ n1_ n2_ n3_ n4_ n5_ n6_
                                              have hHeld := trivial
                                              refine norm_ (a' := ?_) ?_ ?_
                                              rotate_left
                                              · simp only [putAll, Act.put, List.setIfInBounds_toArray, List.set_cons_zero, List.set_cons_succ]
                                                rfl
                                              refine one_ (i := 2) (N := some 11) #[true, true, true, false, true, true, false, true, true, false, false, true, true, false, true, true, false, false, false, true, false] rfl rfl (one_of HT_.out (by kernel_rfl)) (by decide) (fun K hK => ?_)
                                              refine goes_ Tryd.func24 (by kernel_rfl) rfl #[.string (a0.extract 6 8)] (by first | rfl | exact wanted_on rfl rfl rfl (by first | rfl | (simp [*]; done) | (simp [*, IntKind.wrap_u32]; done))) rfl rfl (by (try simp only [List.map_toArray, List.map_cons, List.map_nil]); first | done | rfl | (simp only [List.length_drop, List.length_take]; rfl)) ?_
                                              with_reducible refine (gangwayref01_Num.calls k (a0.extract 6 8) t133 _ A7.out).mono ?_
                                              rintro e w' ⟨rfl, ⟨nd, rfl⟩⟩
                                              refine ⟨_, rfl, ?_⟩
                                              refine hK.out _ _ trivial (fun hHeld => ?_)
                                              clear hK K
                                              refine norm_ (a' := ?_) ?_ ?_
                                              rotate_left
                                              · show Act.put _ (some 11) _ = _
                                                simp only [Act.put, List.setIfInBounds_toArray, List.set_cons_zero, List.set_cons_succ, i64_w, i32_w]
                                                rfl
                                              refine pure_ (i := 3) (N := some 12) (v := ?_) (a' := ?_) #[true, true, true, true, true, true, false, true, true, false, false, true, true, false, true, true, false, false, false, true, false] rfl rfl (any_of HT_.out (by kernel_rfl)) (fun _ _ _ h => h) (Or.inl ⟨by rfl, ?_⟩) ?_ ?_
                                              rotate_left
                                              · intro w'
                                                go_simp
                                                first | with_reducible rfl | (rw [if_neg (by (try simp only [decide_eq_true_eq, ByteArray.size_append, ByteArray.size_extract, eq_iff_iff, iff_true, iff_false, Nat.not_lt] at *); omega)]; try with_reducible rfl)
                                              rotate_left
                                              · simp only [Act.put, List.setIfInBounds_toArray, List.set_cons_zero, List.set_cons_succ, i64_w, i32_w]
                                                rfl
                                              exact norm_ (by first | (simp only [putAll, Act.put, List.setIfInBounds_toArray, List.set_cons_zero, List.set_cons_succ]; done) | (simp only [putAll, Act.put, List.setIfInBounds_toArray, List.set_cons_zero, List.set_cons_succ]; rfl)) (hJ2_19 (gb138) _ ⟨(by (with_reducible repeat (first | refine blk_drewN ?_ _ | refine blk_drew ?_ | refine blk_alloc ?_ _)); exact BK132.out), (by (with_reducible repeat (first | refine blk_drewN ?_ _ | refine blk_drew ?_ | refine blk_alloc ?_ _)); exact BK138.out), GW138.out, GE138.out, NB132_138.out, NB138_132.out, (by repeat (first | (with_reducible first | exact HB.out | apply below_alloc | apply pw_below_drewN | apply below_drew1 | refine below_set ?_ GE132.out | refine below_set ?_ GE138.out) | exact HB.out))⟩)
                                          · skip
                                            rintro _ w23 ⟨h0_, h1_⟩
                                            have n0_ : Aside0 (w23.heap[gb132]? = some (.cells #[.int .i64 0, .int .u64 0, .int .u32 0, .int .u64 0, .int .u32 0] 25 (0, 0))) := ⟨h0_⟩
                                            have n1_ : Aside0 (Below w.heap.size w w23) := ⟨h1_⟩
                                            clear BK132
                                            clear HB
                                            clear h0_ h1_
                                            have BK132 := n0_
                                            have HB := n1_
                                            clear n0_ n1_
                                            have hHeld := trivial
                                            refine norm_ (a' := ?_) ?_ ?_
                                            rotate_left
                                            · simp only [putAll, Act.put, List.setIfInBounds_toArray, List.set_cons_zero, List.set_cons_succ]
                                              rfl
                                            refine two_ (i := 6) (j := 19) (Ni := some 15) (Nj := some 4) #[true, true, true, true, true, true, true, true, true, false, false, true, true, false, true, true, false, false, false, false, false] #[true, true, true, true, true, true, false, true, true, false, false, true, true, false, true, true, false, false, false, true, false] rfl rfl rfl rfl (two_of HT_.out (by kernel_rfl)) (by decide) (by decide) (fun K hK => ?_) (fun K hK => ?_)
                                            · skip
                                              refine goes_ Tryd.func24 (by kernel_rfl) rfl #[.string (a0.extract 8 14)] (by first | rfl | exact wanted_on rfl rfl rfl (by first | rfl | (simp [*]; done) | (simp [*, IntKind.wrap_u32]; done))) rfl rfl (by (try simp only [List.map_toArray, List.map_cons, List.map_nil]); first | done | rfl | (simp only [List.length_drop, List.length_take]; rfl)) ?_
                                              with_reducible refine (gangwayref01_Num.calls k (a0.extract 8 14) t134 _ A10.out).mono ?_
                                              rintro e w' ⟨rfl, ⟨nd, rfl⟩⟩
                                              refine ⟨_, rfl, ?_⟩
                                              refine hK.out _ _ trivial (fun hHeld => ?_)
                                              clear hK K
                                              refine norm_ (a' := ?_) ?_ ?_
                                              rotate_left
                                              · show Act.put _ (some 15) _ = _
                                                simp only [Act.put, List.setIfInBounds_toArray, List.set_cons_zero, List.set_cons_succ, i64_w, i32_w]
                                                rfl
                                              exact norm_ (by first | (simp only [putAll, Act.put, List.setIfInBounds_toArray, List.set_cons_zero, List.set_cons_succ]; done) | (simp only [putAll, Act.put, List.setIfInBounds_toArray, List.set_cons_zero, List.set_cons_succ]; rfl)) (hJ2_6 () _ ⟨(by (with_reducible repeat (first | refine blk_drewN ?_ _ | refine blk_drew ?_ | refine blk_alloc ?_ _)); exact BK132.out), (by repeat (first | (with_reducible first | exact HB.out | apply below_alloc | apply pw_below_drewN | apply below_drew1 | refine below_set ?_ GE132.out) | exact HB.out))⟩)
                                            · skip
                                              refine box_step ?hg (N := 4) ?hd (cs := #[.int .i64 0, .int .u64 0, .int .u32 0, .int .u64 0, .int .u32 0]) (t := 25) ?hr ?_; (case hd => rfl); (case hg => rfl); (case hr => first | (go_simp; done) | (go_simp; rfl))
                                              intro gb138 hg w24 hbox hb
                                              have n0_ := Aside0.mk (blk_below (g := gb132) (o := .cells #[.int .i64 0, .int .u64 0, .int .u32 0, .int .u64 0, .int .u32 0] 25 (0, 0)) (by (with_reducible repeat (first | refine blk_drewN ?_ _ | refine blk_drew ?_ | refine blk_alloc ?_ _)); exact BK132.out) hb)
                                              have n1_ := Aside0.mk (below_step (by repeat (first | (with_reducible first | exact HB.out | apply below_alloc | apply pw_below_drewN | apply below_drew1 | refine below_set ?_ GE132.out) | exact HB.out)) hb)
                                              have n2_ := Aside0.mk (hbox)
                                              have n3_ := Aside0.mk ((by rw [hg]; exact (below_size (by repeat (first | (with_reducible first | exact HB.out | apply below_alloc | apply pw_below_drewN | apply below_drew1 | refine below_set ?_ GE132.out) | exact HB.out))) : w.heap.size ≤ gb138))
                                              have n4_ := Aside0.mk ((by rw [hg]; exact (below_size (by repeat (first | (with_reducible first | exact HB.out | apply below_alloc | apply pw_below_drewN | apply below_drew1 | refine below_set ?_ GE132.out) | exact HB.out))) : w.heap.size ≤ gb138))
                                              have n5_ := Aside0.mk ((by rw [hg]; exact Nat.ne_of_lt (blk_lt (g := gb132) (o := .cells #[.int .i64 0, .int .u64 0, .int .u32 0, .int .u64 0, .int .u32 0] 25 (0, 0)) (by (with_reducible repeat (first | refine blk_drewN ?_ _ | refine blk_drew ?_ | refine blk_alloc ?_ _)); exact BK132.out)) : gb132 ≠ gb138))
                                              have n6_ := Aside0.mk ((by rw [hg]; exact Nat.ne_of_gt (blk_lt (g := gb132) (o := .cells #[.int .i64 0, .int .u64 0, .int .u32 0, .int .u64 0, .int .u32 0] 25 (0, 0)) (by (with_reducible repeat (first | refine blk_drewN ?_ _ | refine blk_drew ?_ | refine blk_alloc ?_ _)); exact BK132.out)) : gb138 ≠ gb132))
                                              clear BK132
                                              clear HB
                                              have BK132 := n0_
                                              have HB := n1_
                                              have BK138 := n2_
                                              have GW138 := n3_
                                              have GE138 := n4_
                                              have NB132_138 := n5_
                                              have NB138_132 := n6_
                                              clear n0_ n1_ n2_ n3_ n4_ n5_ n6_
                                              clear hb hbox hg
                                              refine hK.out _ _ trivial (fun hHeld => ?_)
                                              clear hK K
                                              refine norm_ (a' := ?_) ?_ ?_
                                              rotate_left
                                              · show Act.put _ (some 4) _ = _
                                                simp only [Act.put, List.setIfInBounds_toArray, List.set_cons_zero, List.set_cons_succ, i64_w, i32_w]
                                                rfl
                                              exact norm_ (by first | (simp only [putAll, Act.put, List.setIfInBounds_toArray, List.set_cons_zero, List.set_cons_succ]; done) | (simp only [putAll, Act.put, List.setIfInBounds_toArray, List.set_cons_zero, List.set_cons_succ]; rfl)) (hJ2_19 (gb138) _ ⟨(by (with_reducible repeat (first | refine blk_drewN ?_ _ | refine blk_drew ?_ | refine blk_alloc ?_ _)); exact BK132.out), (by (with_reducible repeat (first | refine blk_drewN ?_ _ | refine blk_drew ?_ | refine blk_alloc ?_ _)); exact BK138.out), GW138.out, GE138.out, NB132_138.out, NB138_132.out, (by repeat (first | (with_reducible first | exact HB.out | apply below_alloc | apply pw_below_drewN | apply below_drew1 | refine below_set ?_ GE132.out | refine below_set ?_ GE138.out) | exact HB.out))⟩)
                                        · skip
                                          rintro gb138 w24 ⟨h0_, h1_, h2_, h3_, h4_, h5_, h6_⟩
                                          have n0_ : Aside0 (w24.heap[gb132]? = some (.cells #[.int .i64 0, .int .u64 0, .int .u32 0, .int .u64 0, .int .u32 0] 25 (0, 0))) := ⟨h0_⟩
                                          have n1_ : Aside0 (w24.heap[gb138]? = some (.cells #[.int .i64 0, .int .u64 0, .int .u32 0, .int .u64 0, .int .u32 0] 25 (0, 0))) := ⟨h1_⟩
                                          have n2_ : Aside0 (w.heap.size ≤ gb138) := ⟨h2_⟩
                                          have n3_ : Aside0 (w.heap.size ≤ gb138) := ⟨h3_⟩
                                          have n4_ : Aside0 (gb132 ≠ gb138) := ⟨h4_⟩
                                          have n5_ : Aside0 (gb138 ≠ gb132) := ⟨h5_⟩
                                          have n6_ : Aside0 (Below w.heap.size w w24) := ⟨h6_⟩
                                          clear BK132
                                          clear HB
                                          clear h0_ h1_ h2_ h3_ h4_ h5_ h6_
                                          have BK132 := n0_
                                          have BK138 := n1_
                                          have GW138 := n2_
                                          have GE138 := n3_
                                          have NB132_138 := n4_
                                          have NB138_132 := n5_
                                          have HB := n6_
                                          clear n0_ n1_ n2_ n3_ n4_ n5_ n6_
                                          have hHeld := trivial
                                          refine norm_ (a' := ?_) ?_ ?_
                                          rotate_left
                                          · simp only [putAll, Act.put, List.setIfInBounds_toArray, List.set_cons_zero, List.set_cons_succ]
                                            rfl
                                          refine one_ (i := 6) (N := some 15) #[true, true, true, true, true, true, true, true, true, false, false, true, true, false, true, true, false, false, false, true, false] rfl rfl (one_of HT_.out (by kernel_rfl)) (by decide) (fun K hK => ?_)
                                          refine goes_ Tryd.func24 (by kernel_rfl) rfl #[.string (a0.extract 8 14)] (by first | rfl | exact wanted_on rfl rfl rfl (by first | rfl | (simp [*]; done) | (simp [*, IntKind.wrap_u32]; done))) rfl rfl (by (try simp only [List.map_toArray, List.map_cons, List.map_nil]); first | done | rfl | (simp only [List.length_drop, List.length_take]; rfl)) ?_
                                          with_reducible refine (gangwayref01_Num.calls k (a0.extract 8 14) t134 _ A10.out).mono ?_
                                          rintro e w' ⟨rfl, ⟨nd, rfl⟩⟩
                                          refine ⟨_, rfl, ?_⟩
                                          refine hK.out _ _ trivial (fun hHeld => ?_)
                                          clear hK K
                                          refine norm_ (a' := ?_) ?_ ?_
                                          rotate_left
                                          · show Act.put _ (some 15) _ = _
                                            simp only [Act.put, List.setIfInBounds_toArray, List.set_cons_zero, List.set_cons_succ, i64_w, i32_w]
                                            rfl
                                          exact norm_ (by first | (simp only [putAll, Act.put, List.setIfInBounds_toArray, List.set_cons_zero, List.set_cons_succ]; done) | (simp only [putAll, Act.put, List.setIfInBounds_toArray, List.set_cons_zero, List.set_cons_succ]; rfl)) (hJ2_6_19 (gb138) _ ⟨(by (with_reducible repeat (first | refine blk_drewN ?_ _ | refine blk_drew ?_ | refine blk_alloc ?_ _)); exact BK132.out), (by (with_reducible repeat (first | refine blk_drewN ?_ _ | refine blk_drew ?_ | refine blk_alloc ?_ _)); exact BK138.out), GW138.out, GE138.out, NB132_138.out, NB138_132.out, (by repeat (first | (with_reducible first | exact HB.out | apply below_alloc | apply pw_below_drewN | apply below_drew1 | refine below_set ?_ GE132.out | refine below_set ?_ GE138.out) | exact HB.out))⟩)
                                      · skip
                                        rintro _ w23 ⟨h0_, h1_⟩
                                        have n0_ : Aside0 (w23.heap[gb132]? = some (.cells #[.int .i64 0, .int .u64 0, .int .u32 0, .int .u64 0, .int .u32 0] 25 (0, 0))) := ⟨h0_⟩
                                        have n1_ : Aside0 (Below w.heap.size w w23) := ⟨h1_⟩
                                        clear BK132
                                        clear HB
                                        clear h0_ h1_
                                        have BK132 := n0_
                                        have HB := n1_
                                        clear n0_ n1_
                                        have hHeld := trivial
                                        refine norm_ (a' := ?_) ?_ ?_
                                        rotate_left
                                        · simp only [putAll, Act.put, List.setIfInBounds_toArray, List.set_cons_zero, List.set_cons_succ]
                                          rfl
                                        refine two_ (i := 9) (j := 19) (Ni := some 18) (Nj := some 4) #[true, true, true, true, true, true, true, true, true, true, false, true, true, false, true, true, false, false, false, false, false] #[true, true, true, true, true, true, true, true, true, false, false, true, true, false, true, true, false, false, false, true, false] rfl rfl rfl rfl (two_of HT_.out (by kernel_rfl)) (by decide) (by decide) (fun K hK => ?_) (fun K hK => ?_)
                                        · skip
                                          refine goes_ Tryd.func24 (by kernel_rfl) rfl #[.string (a0.extract 14 18)] (by first | rfl | exact wanted_on rfl rfl rfl (by first | rfl | (simp [*]; done) | (simp [*, IntKind.wrap_u32]; done))) rfl rfl (by (try simp only [List.map_toArray, List.map_cons, List.map_nil]); first | done | rfl | (simp only [List.length_drop, List.length_take]; rfl)) ?_
                                          with_reducible refine (gangwayref01_Num.calls k (a0.extract 14 18) t135 _ A13.out).mono ?_
                                          rintro e w' ⟨rfl, ⟨nd, rfl⟩⟩
                                          refine ⟨_, rfl, ?_⟩
                                          refine hK.out _ _ trivial (fun hHeld => ?_)
                                          clear hK K
                                          refine norm_ (a' := ?_) ?_ ?_
                                          rotate_left
                                          · show Act.put _ (some 18) _ = _
                                            simp only [Act.put, List.setIfInBounds_toArray, List.set_cons_zero, List.set_cons_succ, i64_w, i32_w]
                                            rfl
                                          refine pure_ (i := 10) (N := some 19) (v := ?_) (a' := ?_) #[true, true, true, true, true, true, true, true, true, true, true, true, true, false, true, true, false, false, false, false, false] rfl rfl (any_of HT_.out (by kernel_rfl)) (fun _ _ _ h => h) (Or.inl ⟨by rfl, ?_⟩) ?_ ?_
                                          rotate_left
                                          · intro w'
                                            go_simp
                                            first | with_reducible rfl | (rw [if_neg (by (try simp only [decide_eq_true_eq, ByteArray.size_append, ByteArray.size_extract, eq_iff_iff, iff_true, iff_false, Nat.not_lt] at *); omega)]; try with_reducible rfl)
                                          rotate_left
                                          · simp only [Act.put, List.setIfInBounds_toArray, List.set_cons_zero, List.set_cons_succ, i64_w, i32_w]
                                            rfl
                                          exact norm_ (by first | (simp only [putAll, Act.put, List.setIfInBounds_toArray, List.set_cons_zero, List.set_cons_succ]; done) | (simp only [putAll, Act.put, List.setIfInBounds_toArray, List.set_cons_zero, List.set_cons_succ]; rfl)) (hJ2_6_9 () _ ⟨(by (with_reducible repeat (first | refine blk_drewN ?_ _ | refine blk_drew ?_ | refine blk_alloc ?_ _)); exact BK132.out), (by repeat (first | (with_reducible first | exact HB.out | apply below_alloc | apply pw_below_drewN | apply below_drew1 | refine below_set ?_ GE132.out) | exact HB.out))⟩)
                                        · skip
                                          refine box_step ?hg (N := 4) ?hd (cs := #[.int .i64 0, .int .u64 0, .int .u32 0, .int .u64 0, .int .u32 0]) (t := 25) ?hr ?_; (case hd => rfl); (case hg => rfl); (case hr => first | (go_simp; done) | (go_simp; rfl))
                                          intro gb138 hg w24 hbox hb
                                          have n0_ := Aside0.mk (blk_below (g := gb132) (o := .cells #[.int .i64 0, .int .u64 0, .int .u32 0, .int .u64 0, .int .u32 0] 25 (0, 0)) (by (with_reducible repeat (first | refine blk_drewN ?_ _ | refine blk_drew ?_ | refine blk_alloc ?_ _)); exact BK132.out) hb)
                                          have n1_ := Aside0.mk (below_step (by repeat (first | (with_reducible first | exact HB.out | apply below_alloc | apply pw_below_drewN | apply below_drew1 | refine below_set ?_ GE132.out) | exact HB.out)) hb)
                                          have n2_ := Aside0.mk (hbox)
                                          have n3_ := Aside0.mk ((by rw [hg]; exact (below_size (by repeat (first | (with_reducible first | exact HB.out | apply below_alloc | apply pw_below_drewN | apply below_drew1 | refine below_set ?_ GE132.out) | exact HB.out))) : w.heap.size ≤ gb138))
                                          have n4_ := Aside0.mk ((by rw [hg]; exact (below_size (by repeat (first | (with_reducible first | exact HB.out | apply below_alloc | apply pw_below_drewN | apply below_drew1 | refine below_set ?_ GE132.out) | exact HB.out))) : w.heap.size ≤ gb138))
                                          have n5_ := Aside0.mk ((by rw [hg]; exact Nat.ne_of_lt (blk_lt (g := gb132) (o := .cells #[.int .i64 0, .int .u64 0, .int .u32 0, .int .u64 0, .int .u32 0] 25 (0, 0)) (by (with_reducible repeat (first | refine blk_drewN ?_ _ | refine blk_drew ?_ | refine blk_alloc ?_ _)); exact BK132.out)) : gb132 ≠ gb138))
                                          have n6_ := Aside0.mk ((by rw [hg]; exact Nat.ne_of_gt (blk_lt (g := gb132) (o := .cells #[.int .i64 0, .int .u64 0, .int .u32 0, .int .u64 0, .int .u32 0] 25 (0, 0)) (by (with_reducible repeat (first | refine blk_drewN ?_ _ | refine blk_drew ?_ | refine blk_alloc ?_ _)); exact BK132.out)) : gb138 ≠ gb132))
                                          clear BK132
                                          clear HB
                                          have BK132 := n0_
                                          have HB := n1_
                                          have BK138 := n2_
                                          have GW138 := n3_
                                          have GE138 := n4_
                                          have NB132_138 := n5_
                                          have NB138_132 := n6_
                                          clear n0_ n1_ n2_ n3_ n4_ n5_ n6_
                                          clear hb hbox hg
                                          refine hK.out _ _ trivial (fun hHeld => ?_)
                                          clear hK K
                                          refine norm_ (a' := ?_) ?_ ?_
                                          rotate_left
                                          · show Act.put _ (some 4) _ = _
                                            simp only [Act.put, List.setIfInBounds_toArray, List.set_cons_zero, List.set_cons_succ, i64_w, i32_w]
                                            rfl
                                          exact norm_ (by first | (simp only [putAll, Act.put, List.setIfInBounds_toArray, List.set_cons_zero, List.set_cons_succ]; done) | (simp only [putAll, Act.put, List.setIfInBounds_toArray, List.set_cons_zero, List.set_cons_succ]; rfl)) (hJ2_6_19 (gb138) _ ⟨(by (with_reducible repeat (first | refine blk_drewN ?_ _ | refine blk_drew ?_ | refine blk_alloc ?_ _)); exact BK132.out), (by (with_reducible repeat (first | refine blk_drewN ?_ _ | refine blk_drew ?_ | refine blk_alloc ?_ _)); exact BK138.out), GW138.out, GE138.out, NB132_138.out, NB138_132.out, (by repeat (first | (with_reducible first | exact HB.out | apply below_alloc | apply pw_below_drewN | apply below_drew1 | refine below_set ?_ GE132.out | refine below_set ?_ GE138.out) | exact HB.out))⟩)
                                    · skip
                                      rintro gb138 w24 ⟨h0_, h1_, h2_, h3_, h4_, h5_, h6_⟩
                                      have n0_ : Aside0 (w24.heap[gb132]? = some (.cells #[.int .i64 0, .int .u64 0, .int .u32 0, .int .u64 0, .int .u32 0] 25 (0, 0))) := ⟨h0_⟩
                                      have n1_ : Aside0 (w24.heap[gb138]? = some (.cells #[.int .i64 0, .int .u64 0, .int .u32 0, .int .u64 0, .int .u32 0] 25 (0, 0))) := ⟨h1_⟩
                                      have n2_ : Aside0 (w.heap.size ≤ gb138) := ⟨h2_⟩
                                      have n3_ : Aside0 (w.heap.size ≤ gb138) := ⟨h3_⟩
                                      have n4_ : Aside0 (gb132 ≠ gb138) := ⟨h4_⟩
                                      have n5_ : Aside0 (gb138 ≠ gb132) := ⟨h5_⟩
                                      have n6_ : Aside0 (Below w.heap.size w w24) := ⟨h6_⟩
                                      clear BK132
                                      clear HB
                                      clear h0_ h1_ h2_ h3_ h4_ h5_ h6_
                                      have BK132 := n0_
                                      have BK138 := n1_
                                      have GW138 := n2_
                                      have GE138 := n3_
                                      have NB132_138 := n4_
                                      have NB138_132 := n5_
                                      have HB := n6_
                                      clear n0_ n1_ n2_ n3_ n4_ n5_ n6_
                                      have hHeld := trivial
                                      refine norm_ (a' := ?_) ?_ ?_
                                      rotate_left
                                      · simp only [putAll, Act.put, List.setIfInBounds_toArray, List.set_cons_zero, List.set_cons_succ]
                                        rfl
                                      refine one_ (i := 9) (N := some 18) #[true, true, true, true, true, true, true, true, true, true, false, true, true, false, true, true, false, false, false, true, false] rfl rfl (one_of HT_.out (by kernel_rfl)) (by decide) (fun K hK => ?_)
                                      refine goes_ Tryd.func24 (by kernel_rfl) rfl #[.string (a0.extract 14 18)] (by first | rfl | exact wanted_on rfl rfl rfl (by first | rfl | (simp [*]; done) | (simp [*, IntKind.wrap_u32]; done))) rfl rfl (by (try simp only [List.map_toArray, List.map_cons, List.map_nil]); first | done | rfl | (simp only [List.length_drop, List.length_take]; rfl)) ?_
                                      with_reducible refine (gangwayref01_Num.calls k (a0.extract 14 18) t135 _ A13.out).mono ?_
                                      rintro e w' ⟨rfl, ⟨nd, rfl⟩⟩
                                      refine ⟨_, rfl, ?_⟩
                                      refine hK.out _ _ trivial (fun hHeld => ?_)
                                      clear hK K
                                      refine norm_ (a' := ?_) ?_ ?_
                                      rotate_left
                                      · show Act.put _ (some 18) _ = _
                                        simp only [Act.put, List.setIfInBounds_toArray, List.set_cons_zero, List.set_cons_succ, i64_w, i32_w]
                                        rfl
                                      refine pure_ (i := 10) (N := some 19) (v := ?_) (a' := ?_) #[true, true, true, true, true, true, true, true, true, true, true, true, true, false, true, true, false, false, false, true, false] rfl rfl (any_of HT_.out (by kernel_rfl)) (fun _ _ _ h => h) (Or.inl ⟨by rfl, ?_⟩) ?_ ?_
                                      rotate_left
                                      · intro w'
                                        go_simp
                                        first | with_reducible rfl | (rw [if_neg (by (try simp only [decide_eq_true_eq, ByteArray.size_append, ByteArray.size_extract, eq_iff_iff, iff_true, iff_false, Nat.not_lt] at *); omega)]; try with_reducible rfl)
                                      rotate_left
                                      · simp only [Act.put, List.setIfInBounds_toArray, List.set_cons_zero, List.set_cons_succ, i64_w, i32_w]
                                        rfl
                                      exact norm_ (by first | (simp only [putAll, Act.put, List.setIfInBounds_toArray, List.set_cons_zero, List.set_cons_succ]; done) | (simp only [putAll, Act.put, List.setIfInBounds_toArray, List.set_cons_zero, List.set_cons_succ]; rfl)) (hJ2_6_9_19 (gb138) _ ⟨(by (with_reducible repeat (first | refine blk_drewN ?_ _ | refine blk_drew ?_ | refine blk_alloc ?_ _)); exact BK132.out), (by (with_reducible repeat (first | refine blk_drewN ?_ _ | refine blk_drew ?_ | refine blk_alloc ?_ _)); exact BK138.out), GW138.out, GE138.out, NB132_138.out, NB138_132.out, (by repeat (first | (with_reducible first | exact HB.out | apply below_alloc | apply pw_below_drewN | apply below_drew1 | refine below_set ?_ GE132.out | refine below_set ?_ GE138.out) | exact HB.out))⟩)
                                  · skip
                                    rintro _ w23 ⟨h0_, h1_⟩
                                    have n0_ : Aside0 (w23.heap[gb132]? = some (.cells #[.int .i64 0, .int .u64 0, .int .u32 0, .int .u64 0, .int .u32 0] 25 (0, 0))) := ⟨h0_⟩
                                    have n1_ : Aside0 (Below w.heap.size w w23) := ⟨h1_⟩
                                    clear BK132
                                    clear HB
                                    clear h0_ h1_
                                    have BK132 := n0_
                                    have HB := n1_
                                    clear n0_ n1_
                                    have hHeld := trivial
                                    refine norm_ (a' := ?_) ?_ ?_
                                    rotate_left
                                    · simp only [putAll, Act.put, List.setIfInBounds_toArray, List.set_cons_zero, List.set_cons_succ]
                                      rfl
                                    refine two_ (i := 13) (j := 19) (Ni := some 22) (Nj := some 4) #[true, true, true, true, true, true, true, true, true, true, true, true, true, true, true, true, false, false, false, false, false] #[true, true, true, true, true, true, true, true, true, true, true, true, true, false, true, true, false, false, false, true, false] rfl rfl rfl rfl (two_of HT_.out (by kernel_rfl)) (by decide) (by decide) (fun K hK => ?_) (fun K hK => ?_)
                                    · skip
                                      refine goes_ Tryd.func24 (by kernel_rfl) rfl #[.string (a0.extract 18 24)] (by first | rfl | exact wanted_on rfl rfl rfl (by first | rfl | (simp [*]; done) | (simp [*, IntKind.wrap_u32]; done))) rfl rfl (by (try simp only [List.map_toArray, List.map_cons, List.map_nil]); first | done | rfl | (simp only [List.length_drop, List.length_take]; rfl)) ?_
                                      with_reducible refine (gangwayref01_Num.calls k (a0.extract 18 24) t136 _ A16.out).mono ?_
                                      rintro e w' ⟨rfl, ⟨nd, rfl⟩⟩
                                      refine ⟨_, rfl, ?_⟩
                                      refine hK.out _ _ trivial (fun hHeld => ?_)
                                      clear hK K
                                      refine norm_ (a' := ?_) ?_ ?_
                                      rotate_left
                                      · show Act.put _ (some 22) _ = _
                                        simp only [Act.put, List.setIfInBounds_toArray, List.set_cons_zero, List.set_cons_succ, i64_w, i32_w]
                                        rfl
                                      exact norm_ (by first | (simp only [putAll, Act.put, List.setIfInBounds_toArray, List.set_cons_zero, List.set_cons_succ]; done) | (simp only [putAll, Act.put, List.setIfInBounds_toArray, List.set_cons_zero, List.set_cons_succ]; rfl)) (hJ2_6_9_13 () _ ⟨(by (with_reducible repeat (first | refine blk_drewN ?_ _ | refine blk_drew ?_ | refine blk_alloc ?_ _)); exact BK132.out), (by repeat (first | (with_reducible first | exact HB.out | apply below_alloc | apply pw_below_drewN | apply below_drew1 | refine below_set ?_ GE132.out) | exact HB.out))⟩)
                                    · skip
                                      refine box_step ?hg (N := 4) ?hd (cs := #[.int .i64 0, .int .u64 0, .int .u32 0, .int .u64 0, .int .u32 0]) (t := 25) ?hr ?_; (case hd => rfl); (case hg => rfl); (case hr => first | (go_simp; done) | (go_simp; rfl))
                                      intro gb138 hg w24 hbox hb
                                      have n0_ := Aside0.mk (blk_below (g := gb132) (o := .cells #[.int .i64 0, .int .u64 0, .int .u32 0, .int .u64 0, .int .u32 0] 25 (0, 0)) (by (with_reducible repeat (first | refine blk_drewN ?_ _ | refine blk_drew ?_ | refine blk_alloc ?_ _)); exact BK132.out) hb)
                                      have n1_ := Aside0.mk (below_step (by repeat (first | (with_reducible first | exact HB.out | apply below_alloc | apply pw_below_drewN | apply below_drew1 | refine below_set ?_ GE132.out) | exact HB.out)) hb)
                                      have n2_ := Aside0.mk (hbox)
                                      have n3_ := Aside0.mk ((by rw [hg]; exact (below_size (by repeat (first | (with_reducible first | exact HB.out | apply below_alloc | apply pw_below_drewN | apply below_drew1 | refine below_set ?_ GE132.out) | exact HB.out))) : w.heap.size ≤ gb138))
                                      have n4_ := Aside0.mk ((by rw [hg]; exact (below_size (by repeat (first | (with_reducible first | exact HB.out | apply below_alloc | apply pw_below_drewN | apply below_drew1 | refine below_set ?_ GE132.out) | exact HB.out))) : w.heap.size ≤ gb138))
                                      have n5_ := Aside0.mk ((by rw [hg]; exact Nat.ne_of_lt (blk_lt (g := gb132) (o := .cells #[.int .i64 0, .int .u64 0, .int .u32 0, .int .u64 0, .int .u32 0] 25 (0, 0)) (by (with_reducible repeat (first | refine blk_drewN ?_ _ | refine blk_drew ?_ | refine blk_alloc ?_ _)); exact BK132.out)) : gb132 ≠ gb138))
                                      have n6_ := Aside0.mk ((by rw [hg]; exact Nat.ne_of_gt (blk_lt (g := gb132) (o := .cells #[.int .i64 0, .int .u64 0, .int .u32 0, .int .u64 0, .int .u32 0] 25 (0, 0)) (by (with_reducible repeat (first | refine blk_drewN ?_ _ | refine blk_drew ?_ | refine blk_alloc ?_ _)); exact BK132.out)) : gb138 ≠ gb132))
                                      clear BK132
                                      clear HB
                                      have BK132 := n0_
                                      have HB := n1_
                                      have BK138 := n2_
                                      have GW138 := n3_
                                      have GE138 := n4_
                                      have NB132_138 := n5_
                                      have NB138_132 := n6_
                                      clear n0_ n1_ n2_ n3_ n4_ n5_ n6_
                                      clear hb hbox hg
                                      refine hK.out _ _ trivial (fun hHeld => ?_)
                                      clear hK K
                                      refine norm_ (a' := ?_) ?_ ?_
                                      rotate_left
                                      · show Act.put _ (some 4) _ = _
                                        simp only [Act.put, List.setIfInBounds_toArray, List.set_cons_zero, List.set_cons_succ, i64_w, i32_w]
                                        rfl
                                      exact norm_ (by first | (simp only [putAll, Act.put, List.setIfInBounds_toArray, List.set_cons_zero, List.set_cons_succ]; done) | (simp only [putAll, Act.put, List.setIfInBounds_toArray, List.set_cons_zero, List.set_cons_succ]; rfl)) (hJ2_6_9_19 (gb138) _ ⟨(by (with_reducible repeat (first | refine blk_drewN ?_ _ | refine blk_drew ?_ | refine blk_alloc ?_ _)); exact BK132.out), (by (with_reducible repeat (first | refine blk_drewN ?_ _ | refine blk_drew ?_ | refine blk_alloc ?_ _)); exact BK138.out), GW138.out, GE138.out, NB132_138.out, NB138_132.out, (by repeat (first | (with_reducible first | exact HB.out | apply below_alloc | apply pw_below_drewN | apply below_drew1 | refine below_set ?_ GE132.out | refine below_set ?_ GE138.out) | exact HB.out))⟩)
                                · skip
                                  rintro gb138 w24 ⟨h0_, h1_, h2_, h3_, h4_, h5_, h6_⟩
                                  have n0_ : Aside0 (w24.heap[gb132]? = some (.cells #[.int .i64 0, .int .u64 0, .int .u32 0, .int .u64 0, .int .u32 0] 25 (0, 0))) := ⟨h0_⟩
                                  have n1_ : Aside0 (w24.heap[gb138]? = some (.cells #[.int .i64 0, .int .u64 0, .int .u32 0, .int .u64 0, .int .u32 0] 25 (0, 0))) := ⟨h1_⟩
                                  have n2_ : Aside0 (w.heap.size ≤ gb138) := ⟨h2_⟩
                                  have n3_ : Aside0 (w.heap.size ≤ gb138) := ⟨h3_⟩
                                  have n4_ : Aside0 (gb132 ≠ gb138) := ⟨h4_⟩
                                  have n5_ : Aside0 (gb138 ≠ gb132) := ⟨h5_⟩
                                  have n6_ : Aside0 (Below w.heap.size w w24) := ⟨h6_⟩
                                  clear BK132
                                  clear HB
                                  clear h0_ h1_ h2_ h3_ h4_ h5_ h6_
                                  have BK132 := n0_
                                  have BK138 := n1_
                                  have GW138 := n2_
                                  have GE138 := n3_
                                  have NB132_138 := n4_
                                  have NB138_132 := n5_
                                  have HB := n6_
                                  clear n0_ n1_ n2_ n3_ n4_ n5_ n6_
                                  have hHeld := trivial
                                  refine norm_ (a' := ?_) ?_ ?_
                                  rotate_left
                                  · simp only [putAll, Act.put, List.setIfInBounds_toArray, List.set_cons_zero, List.set_cons_succ]
                                    rfl
                                  refine one_ (i := 13) (N := some 22) #[true, true, true, true, true, true, true, true, true, true, true, true, true, true, true, true, false, false, false, true, false] rfl rfl (one_of HT_.out (by kernel_rfl)) (by decide) (fun K hK => ?_)
                                  refine goes_ Tryd.func24 (by kernel_rfl) rfl #[.string (a0.extract 18 24)] (by first | rfl | exact wanted_on rfl rfl rfl (by first | rfl | (simp [*]; done) | (simp [*, IntKind.wrap_u32]; done))) rfl rfl (by (try simp only [List.map_toArray, List.map_cons, List.map_nil]); first | done | rfl | (simp only [List.length_drop, List.length_take]; rfl)) ?_
                                  with_reducible refine (gangwayref01_Num.calls k (a0.extract 18 24) t136 _ A16.out).mono ?_
                                  rintro e w' ⟨rfl, ⟨nd, rfl⟩⟩
                                  refine ⟨_, rfl, ?_⟩
                                  refine hK.out _ _ trivial (fun hHeld => ?_)
                                  clear hK K
                                  refine norm_ (a' := ?_) ?_ ?_
                                  rotate_left
                                  · show Act.put _ (some 22) _ = _
                                    simp only [Act.put, List.setIfInBounds_toArray, List.set_cons_zero, List.set_cons_succ, i64_w, i32_w]
                                    rfl
                                  exact norm_ (by first | (simp only [putAll, Act.put, List.setIfInBounds_toArray, List.set_cons_zero, List.set_cons_succ]; done) | (simp only [putAll, Act.put, List.setIfInBounds_toArray, List.set_cons_zero, List.set_cons_succ]; rfl)) (hJ2_6_9_13_19 (gb138) _ ⟨(by (with_reducible repeat (first | refine blk_drewN ?_ _ | refine blk_drew ?_ | refine blk_alloc ?_ _)); exact BK132.out), (by (with_reducible repeat (first | refine blk_drewN ?_ _ | refine blk_drew ?_ | refine blk_alloc ?_ _)); exact BK138.out), GW138.out, GE138.out, NB132_138.out, NB138_132.out, (by repeat (first | (with_reducible first | exact HB.out | apply below_alloc | apply pw_below_drewN | apply below_drew1 | refine below_set ?_ GE132.out | refine below_set ?_ GE138.out) | exact HB.out))⟩)
                              · skip
                                rintro _ w23 ⟨h0_, h1_⟩
                                have n0_ : Aside0 (w23.heap[gb132]? = some (.cells #[.int .i64 0, .int .u64 0, .int .u32 0, .int .u64 0, .int .u32 0] 25 (0, 0))) := ⟨h0_⟩
                                have n1_ : Aside0 (Below w.heap.size w w23) := ⟨h1_⟩
                                clear BK132
                                clear HB
                                clear h0_ h1_
                                have BK132 := n0_
                                have HB := n1_
                                clear n0_ n1_
                                have hHeld := trivial
                                refine norm_ (a' := ?_) ?_ ?_
                                rotate_left
                                · simp only [putAll, Act.put, List.setIfInBounds_toArray, List.set_cons_zero, List.set_cons_succ]
                                  rfl
                                refine two_ (i := 16) (j := 19) (Ni := some 25) (Nj := some 4) #[true, true, true, true, true, true, true, true, true, true, true, true, true, true, true, true, true, false, false, false, false] #[true, true, true, true, true, true, true, true, true, true, true, true, true, true, true, true, false, false, false, true, false] rfl rfl rfl rfl (two_of HT_.out (by kernel_rfl)) (by decide) (by decide) (fun K hK => ?_) (fun K hK => ?_)
                                · skip
                                  refine goes_ Tryd.func24 (by kernel_rfl) rfl #[.string (a0.extract 24 28)] (by first | rfl | exact wanted_on rfl rfl rfl (by first | rfl | (simp [*]; done) | (simp [*, IntKind.wrap_u32]; done))) rfl rfl (by (try simp only [List.map_toArray, List.map_cons, List.map_nil]); first | done | rfl | (simp only [List.length_drop, List.length_take]; rfl)) ?_
                                  with_reducible refine (gangwayref01_Num.calls k (a0.extract 24 28) t137 _ A19.out).mono ?_
                                  rintro e w' ⟨rfl, ⟨nd, rfl⟩⟩
                                  refine ⟨_, rfl, ?_⟩
                                  refine hK.out _ _ trivial (fun hHeld => ?_)
                                  clear hK K
                                  refine norm_ (a' := ?_) ?_ ?_
                                  rotate_left
                                  · show Act.put _ (some 25) _ = _
                                    simp only [Act.put, List.setIfInBounds_toArray, List.set_cons_zero, List.set_cons_succ, i64_w, i32_w]
                                    rfl
                                  refine pure_ (i := 17) (N := some 26) (v := ?_) (a' := ?_) #[true, true, true, true, true, true, true, true, true, true, true, true, true, true, true, true, true, true, false, false, false] rfl rfl (any_of HT_.out (by kernel_rfl)) (fun _ _ _ h => h) (Or.inl ⟨by rfl, ?_⟩) ?_ ?_
                                  rotate_left
                                  · intro w'
                                    go_simp
                                    first | with_reducible rfl | (rw [if_neg (by (try simp only [decide_eq_true_eq, ByteArray.size_append, ByteArray.size_extract, eq_iff_iff, iff_true, iff_false, Nat.not_lt] at *); omega)]; try with_reducible rfl)
                                  rotate_left
                                  · simp only [Act.put, List.setIfInBounds_toArray, List.set_cons_zero, List.set_cons_succ, i64_w, i32_w]
                                    rfl
                                  refine pure_ (i := 18) (N := some 27) (v := ?_) (a' := ?_) #[true, true, true, true, true, true, true, true, true, true, true, true, true, true, true, true, true, true, true, false, false] rfl rfl (any_of HT_.out (by kernel_rfl)) (fun _ _ _ h => h) (Or.inl ⟨by rfl, ?_⟩) ?_ ?_
                                  rotate_left
                                  · intro w'
                                    go_simp
                                    first | with_reducible rfl | (rw [if_neg (by (try simp only [decide_eq_true_eq, ByteArray.size_append, ByteArray.size_extract, eq_iff_iff, iff_true, iff_false, Nat.not_lt] at *); omega)]; try with_reducible rfl)
                                  rotate_left
                                  · simp only [Act.put, List.setIfInBounds_toArray, List.set_cons_zero, List.set_cons_succ, i64_w, i32_w]
                                    rfl
                                  exact norm_ (by first | (simp only [putAll, Act.put, List.setIfInBounds_toArray, List.set_cons_zero, List.set_cons_succ]; done) | (simp only [putAll, Act.put, List.setIfInBounds_toArray, List.set_cons_zero, List.set_cons_succ]; rfl)) (hJ2_6_9_13_16 () _ ⟨(by (with_reducible repeat (first | refine blk_drewN ?_ _ | refine blk_drew ?_ | refine blk_alloc ?_ _)); exact BK132.out), (by repeat (first | (with_reducible first | exact HB.out | apply below_alloc | apply pw_below_drewN | apply below_drew1 | refine below_set ?_ GE132.out) | exact HB.out))⟩)
                                · skip
                                  refine box_step ?hg (N := 4) ?hd (cs := #[.int .i64 0, .int .u64 0, .int .u32 0, .int .u64 0, .int .u32 0]) (t := 25) ?hr ?_; (case hd => rfl); (case hg => rfl); (case hr => first | (go_simp; done) | (go_simp; rfl))
                                  intro gb138 hg w24 hbox hb
                                  have n0_ := Aside0.mk (blk_below (g := gb132) (o := .cells #[.int .i64 0, .int .u64 0, .int .u32 0, .int .u64 0, .int .u32 0] 25 (0, 0)) (by (with_reducible repeat (first | refine blk_drewN ?_ _ | refine blk_drew ?_ | refine blk_alloc ?_ _)); exact BK132.out) hb)
                                  have n1_ := Aside0.mk (below_step (by repeat (first | (with_reducible first | exact HB.out | apply below_alloc | apply pw_below_drewN | apply below_drew1 | refine below_set ?_ GE132.out) | exact HB.out)) hb)
                                  have n2_ := Aside0.mk (hbox)
                                  have n3_ := Aside0.mk ((by rw [hg]; exact (below_size (by repeat (first | (with_reducible first | exact HB.out | apply below_alloc | apply pw_below_drewN | apply below_drew1 | refine below_set ?_ GE132.out) | exact HB.out))) : w.heap.size ≤ gb138))
                                  have n4_ := Aside0.mk ((by rw [hg]; exact (below_size (by repeat (first | (with_reducible first | exact HB.out | apply below_alloc | apply pw_below_drewN | apply below_drew1 | refine below_set ?_ GE132.out) | exact HB.out))) : w.heap.size ≤ gb138))
                                  have n5_ := Aside0.mk ((by rw [hg]; exact Nat.ne_of_lt (blk_lt (g := gb132) (o := .cells #[.int .i64 0, .int .u64 0, .int .u32 0, .int .u64 0, .int .u32 0] 25 (0, 0)) (by (with_reducible repeat (first | refine blk_drewN ?_ _ | refine blk_drew ?_ | refine blk_alloc ?_ _)); exact BK132.out)) : gb132 ≠ gb138))
                                  have n6_ := Aside0.mk ((by rw [hg]; exact Nat.ne_of_gt (blk_lt (g := gb132) (o := .cells #[.int .i64 0, .int .u64 0, .int .u32 0, .int .u64 0, .int .u32 0] 25 (0, 0)) (by (with_reducible repeat (first | refine blk_drewN ?_ _ | refine blk_drew ?_ | refine blk_alloc ?_ _)); exact BK132.out)) : gb138 ≠ gb132))
                                  clear BK132
                                  clear HB
                                  have BK132 := n0_
                                  have HB := n1_
                                  have BK138 := n2_
                                  have GW138 := n3_
                                  have GE138 := n4_
                                  have NB132_138 := n5_
                                  have NB138_132 := n6_
                                  clear n0_ n1_ n2_ n3_ n4_ n5_ n6_
                                  clear hb hbox hg
                                  refine hK.out _ _ trivial (fun hHeld => ?_)
                                  clear hK K
                                  refine norm_ (a' := ?_) ?_ ?_
                                  rotate_left
                                  · show Act.put _ (some 4) _ = _
                                    simp only [Act.put, List.setIfInBounds_toArray, List.set_cons_zero, List.set_cons_succ, i64_w, i32_w]
                                    rfl
                                  exact norm_ (by first | (simp only [putAll, Act.put, List.setIfInBounds_toArray, List.set_cons_zero, List.set_cons_succ]; done) | (simp only [putAll, Act.put, List.setIfInBounds_toArray, List.set_cons_zero, List.set_cons_succ]; rfl)) (hJ2_6_9_13_19 (gb138) _ ⟨(by (with_reducible repeat (first | refine blk_drewN ?_ _ | refine blk_drew ?_ | refine blk_alloc ?_ _)); exact BK132.out), (by (with_reducible repeat (first | refine blk_drewN ?_ _ | refine blk_drew ?_ | refine blk_alloc ?_ _)); exact BK138.out), GW138.out, GE138.out, NB132_138.out, NB138_132.out, (by repeat (first | (with_reducible first | exact HB.out | apply below_alloc | apply pw_below_drewN | apply below_drew1 | refine below_set ?_ GE132.out | refine below_set ?_ GE138.out) | exact HB.out))⟩)
                            · skip
                              rintro gb138 w24 ⟨h0_, h1_, h2_, h3_, h4_, h5_, h6_⟩
                              have n0_ : Aside0 (w24.heap[gb132]? = some (.cells #[.int .i64 0, .int .u64 0, .int .u32 0, .int .u64 0, .int .u32 0] 25 (0, 0))) := ⟨h0_⟩
                              have n1_ : Aside0 (w24.heap[gb138]? = some (.cells #[.int .i64 0, .int .u64 0, .int .u32 0, .int .u64 0, .int .u32 0] 25 (0, 0))) := ⟨h1_⟩
                              have n2_ : Aside0 (w.heap.size ≤ gb138) := ⟨h2_⟩
                              have n3_ : Aside0 (w.heap.size ≤ gb138) := ⟨h3_⟩
                              have n4_ : Aside0 (gb132 ≠ gb138) := ⟨h4_⟩
                              have n5_ : Aside0 (gb138 ≠ gb132) := ⟨h5_⟩
                              have n6_ : Aside0 (Below w.heap.size w w24) := ⟨h6_⟩
                              clear BK132
                              clear HB
                              clear h0_ h1_ h2_ h3_ h4_ h5_ h6_
                              have BK132 := n0_
                              have BK138 := n1_
                              have GW138 := n2_
                              have GE138 := n3_
                              have NB132_138 := n4_
                              have NB138_132 := n5_
                              have HB := n6_
                              clear n0_ n1_ n2_ n3_ n4_ n5_ n6_
                              have hHeld := trivial
                              refine norm_ (a' := ?_) ?_ ?_
                              rotate_left
                              · simp only [putAll, Act.put, List.setIfInBounds_toArray, List.set_cons_zero, List.set_cons_succ]
                                rfl
                              refine one_ (i := 16) (N := some 25) #[true, true, true, true, true, true, true, true, true, true, true, true, true, true, true, true, true, false, false, true, false] rfl rfl (one_of HT_.out (by kernel_rfl)) (by decide) (fun K hK => ?_)
                              refine goes_ Tryd.func24 (by kernel_rfl) rfl #[.string (a0.extract 24 28)] (by first | rfl | exact wanted_on rfl rfl rfl (by first | rfl | (simp [*]; done) | (simp [*, IntKind.wrap_u32]; done))) rfl rfl (by (try simp only [List.map_toArray, List.map_cons, List.map_nil]); first | done | rfl | (simp only [List.length_drop, List.length_take]; rfl)) ?_
                              with_reducible refine (gangwayref01_Num.calls k (a0.extract 24 28) t137 _ A19.out).mono ?_
                              rintro e w' ⟨rfl, ⟨nd, rfl⟩⟩
                              refine ⟨_, rfl, ?_⟩
                              refine hK.out _ _ trivial (fun hHeld => ?_)
                              clear hK K
                              refine norm_ (a' := ?_) ?_ ?_
                              rotate_left
                              · show Act.put _ (some 25) _ = _
                                simp only [Act.put, List.setIfInBounds_toArray, List.set_cons_zero, List.set_cons_succ, i64_w, i32_w]
                                rfl
                              refine pure_ (i := 17) (N := some 26) (v := ?_) (a' := ?_) #[true, true, true, true, true, true, true, true, true, true, true, true, true, true, true, true, true, true, false, true, false] rfl rfl (any_of HT_.out (by kernel_rfl)) (fun _ _ _ h => h) (Or.inl ⟨by rfl, ?_⟩) ?_ ?_
                              rotate_left
                              · intro w'
                                go_simp
                                first | with_reducible rfl | (rw [if_neg (by (try simp only [decide_eq_true_eq, ByteArray.size_append, ByteArray.size_extract, eq_iff_iff, iff_true, iff_false, Nat.not_lt] at *); omega)]; try with_reducible rfl)
                              rotate_left
                              · simp only [Act.put, List.setIfInBounds_toArray, List.set_cons_zero, List.set_cons_succ, i64_w, i32_w]
                                rfl
                              refine pure_ (i := 18) (N := some 27) (v := ?_) (a' := ?_) #[true, true, true, true, true, true, true, true, true, true, true, true, true, true, true, true, true, true, true, true, false] rfl rfl (any_of HT_.out (by kernel_rfl)) (fun _ _ _ h => h) (Or.inl ⟨by rfl, ?_⟩) ?_ ?_
                              rotate_left
                              · intro w'
                                go_simp
                                first | with_reducible rfl | (rw [if_neg (by (try simp only [decide_eq_true_eq, ByteArray.size_append, ByteArray.size_extract, eq_iff_iff, iff_true, iff_false, Nat.not_lt] at *); omega)]; try with_reducible rfl)
                              rotate_left
                              · simp only [Act.put, List.setIfInBounds_toArray, List.set_cons_zero, List.set_cons_succ, i64_w, i32_w]
                                rfl
                              exact norm_ (by first | (simp only [putAll, Act.put, List.setIfInBounds_toArray, List.set_cons_zero, List.set_cons_succ]; done) | (simp only [putAll, Act.put, List.setIfInBounds_toArray, List.set_cons_zero, List.set_cons_succ]; rfl)) (hJ2_6_9_13_16_19 (gb138) _ ⟨(by (with_reducible repeat (first | refine blk_drewN ?_ _ | refine blk_drew ?_ | refine blk_alloc ?_ _)); exact BK132.out), (by (with_reducible repeat (first | refine blk_drewN ?_ _ | refine blk_drew ?_ | refine blk_alloc ?_ _)); exact BK138.out), GW138.out, GE138.out, NB132_138.out, NB138_132.out, (by repeat (first | (with_reducible first | exact HB.out | apply below_alloc | apply pw_below_drewN | apply below_drew1 | refine below_set ?_ GE132.out | refine below_set ?_ GE138.out) | exact HB.out))⟩)
                          · skip
                            rintro _ w23 ⟨h0_, h1_⟩
                            have n0_ : Aside0 (w23.heap[gb132]? = some (.cells #[.int .i64 0, .int .u64 0, .int .u32 0, .int .u64 0, .int .u32 0] 25 (0, 0))) := ⟨h0_⟩
                            have n1_ : Aside0 (Below w.heap.size w w23) := ⟨h1_⟩
                            clear BK132
                            clear HB
                            clear h0_ h1_
                            have BK132 := n0_
                            have HB := n1_
                            clear n0_ n1_
                            have hHeld := trivial
                            refine norm_ (a' := ?_) ?_ ?_
                            rotate_left
                            · simp only [putAll, Act.put, List.setIfInBounds_toArray, List.set_cons_zero, List.set_cons_succ]
                              rfl
                            refine one_ (i := 19) (N := some 4) #[true, true, true, true, true, true, true, true, true, true, true, true, true, true, true, true, true, true, true, true, false] rfl rfl (one_of HT_.out (by kernel_rfl)) (by decide) (fun K hK => ?_)
                            refine box_step ?hg (N := 4) ?hd (cs := #[.int .i64 0, .int .u64 0, .int .u32 0, .int .u64 0, .int .u32 0]) (t := 25) ?hr ?_; (case hd => rfl); (case hg => rfl); (case hr => first | (go_simp; done) | (go_simp; rfl))
                            intro gb138 hg w24 hbox hb
                            have n0_ := Aside0.mk (blk_below (g := gb132) (o := .cells #[.int .i64 0, .int .u64 0, .int .u32 0, .int .u64 0, .int .u32 0] 25 (0, 0)) (by (with_reducible repeat (first | refine blk_drewN ?_ _ | refine blk_drew ?_ | refine blk_alloc ?_ _)); exact BK132.out) hb)
                            have n1_ := Aside0.mk (below_step (by repeat (first | (with_reducible first | exact HB.out | apply below_alloc | apply pw_below_drewN | apply below_drew1 | refine below_set ?_ GE132.out) | exact HB.out)) hb)
                            have n2_ := Aside0.mk (hbox)
                            have n3_ := Aside0.mk ((by rw [hg]; exact (below_size (by repeat (first | (with_reducible first | exact HB.out | apply below_alloc | apply pw_below_drewN | apply below_drew1 | refine below_set ?_ GE132.out) | exact HB.out))) : w.heap.size ≤ gb138))
                            have n4_ := Aside0.mk ((by rw [hg]; exact (below_size (by repeat (first | (with_reducible first | exact HB.out | apply below_alloc | apply pw_below_drewN | apply below_drew1 | refine below_set ?_ GE132.out) | exact HB.out))) : w.heap.size ≤ gb138))
                            have n5_ := Aside0.mk ((by rw [hg]; exact Nat.ne_of_lt (blk_lt (g := gb132) (o := .cells #[.int .i64 0, .int .u64 0, .int .u32 0, .int .u64 0, .int .u32 0] 25 (0, 0)) (by (with_reducible repeat (first | refine blk_drewN ?_ _ | refine blk_drew ?_ | refine blk_alloc ?_ _)); exact BK132.out)) : gb132 ≠ gb138))
                            have n6_ := Aside0.mk ((by rw [hg]; exact Nat.ne_of_gt (blk_lt (g := gb132) (o := .cells #[.int .i64 0, .int .u64 0, .int .u32 0, .int .u64 0, .int .u32 0] 25 (0, 0)) (by (with_reducible repeat (first | refine blk_drewN ?_ _ | refine blk_drew ?_ | refine blk_alloc ?_ _)); exact BK132.out)) : gb138 ≠ gb132))
                            clear BK132
                            clear HB
                            have BK132 := n0_
                            have HB := n1_
                            have BK138 := n2_
                            have GW138 := n3_
                            have GE138 := n4_
                            have NB132_138 := n5_
                            have NB138_132 := n6_
                            clear n0_ n1_ n2_ n3_ n4_ n5_ n6_
                            clear hb hbox hg
                            refine hK.out _ _ trivial (fun hHeld => ?_)
                            clear hK K
                            refine norm_ (a' := ?_) ?_ ?_
                            rotate_left
                            · show Act.put _ (some 4) _ = _
                              simp only [Act.put, List.setIfInBounds_toArray, List.set_cons_zero, List.set_cons_succ, i64_w, i32_w]
                              rfl
                            exact norm_ (by first | (simp only [putAll, Act.put, List.setIfInBounds_toArray, List.set_cons_zero, List.set_cons_succ]; done) | (simp only [putAll, Act.put, List.setIfInBounds_toArray, List.set_cons_zero, List.set_cons_succ]; rfl)) (hJ2_6_9_13_16_19 (gb138) _ ⟨(by (with_reducible repeat (first | refine blk_drewN ?_ _ | refine blk_drew ?_ | refine blk_alloc ?_ _)); exact BK132.out), (by (with_reducible repeat (first | refine blk_drewN ?_ _ | refine blk_drew ?_ | refine blk_alloc ?_ _)); exact BK138.out), GW138.out, GE138.out, NB132_138.out, NB138_132.out, (by repeat (first | (with_reducible first | exact HB.out | apply below_alloc | apply pw_below_drewN | apply below_drew1 | refine below_set ?_ GE132.out | refine below_set ?_ GE138.out) | exact HB.out))⟩)
                        rintro gb138 w24 ⟨h0_, h1_, h2_, h3_, h4_, h5_, h6_⟩
                        have n0_ : Aside0 (w24.heap[gb132]? = some (.cells #[.int .i64 0, .int .u64 0, .int .u32 0, .int .u64 0, .int .u32 0] 25 (0, 0))) := ⟨h0_⟩
                        have n1_ : Aside0 (w24.heap[gb138]? = some (.cells #[.int .i64 0, .int .u64 0, .int .u32 0, .int .u64 0, .int .u32 0] 25 (0, 0))) := ⟨h1_⟩
                        have n2_ : Aside0 (w.heap.size ≤ gb138) := ⟨h2_⟩
                        have n3_ : Aside0 (w.heap.size ≤ gb138) := ⟨h3_⟩
                        have n4_ : Aside0 (gb132 ≠ gb138) := ⟨h4_⟩
                        have n5_ : Aside0 (gb138 ≠ gb132) := ⟨h5_⟩
                        have n6_ : Aside0 (Below w.heap.size w w24) := ⟨h6_⟩
                        clear BK132
                        clear HB
                        clear h0_ h1_ h2_ h3_ h4_ h5_ h6_
                        have BK132 := n0_
                        have BK138 := n1_
                        have GW138 := n2_
                        have GE138 := n3_
                        have NB132_138 := n4_
                        have NB138_132 := n5_
                        have HB := n6_
                        clear n0_ n1_ n2_ n3_ n4_ n5_ n6_
                        have hHeld := trivial
                        refine norm_ (a' := ?_) ?_ ?_
                        rotate_left
                        · simp only [putAll, Act.put, List.setIfInBounds_toArray, List.set_cons_zero, List.set_cons_succ]
                          rfl
                        refine one_ (i := 20) (N := none) #[true, true, true, true, true, true, true, true, true, true, true, true, true, true, true, true, true, true, true, true, true] rfl rfl (one_of HT_.out (by kernel_rfl)) (by decide) (fun K hK => ?_)
                        have hs25 : w24.cell? ⟨gb138, 0, none⟩ = some (.int .i64 0) := (blk_cell BK138.out 0).trans rfl
                        have hfs25 := blk_frozen BK138.out 0
                        have hns25_0 := NB132_138.out
                        have hms25_0 := NB138_132.out
                        have hs26 : w24.cell? ⟨gb138, 1, none⟩ = some (.int .u64 0) := (blk_cell BK138.out 1).trans rfl
                        have hfs26 := blk_frozen BK138.out 1
                        have hns26_0 := NB132_138.out
                        have hms26_0 := NB138_132.out
                        have hs27 : w24.cell? ⟨gb138, 2, none⟩ = some (.int .u32 0) := (blk_cell BK138.out 2).trans rfl
                        have hfs27 := blk_frozen BK138.out 2
                        have hns27_0 := NB132_138.out
                        have hms27_0 := NB138_132.out
                        have hs28 : w24.cell? ⟨gb138, 3, none⟩ = some (.int .u64 0) := (blk_cell BK138.out 3).trans rfl
                        have hfs28 := blk_frozen BK138.out 3
                        have hns28_0 := NB132_138.out
                        have hms28_0 := NB138_132.out
                        have hs29 : w24.cell? ⟨gb138, 4, none⟩ = some (.int .u32 0) := (blk_cell BK138.out 4).trans rfl
                        have hfs29 := blk_frozen BK138.out 4
                        have hns29_0 := NB132_138.out
                        have hms29_0 := NB138_132.out
                        refine skip_ (w1 := ?_) (by rfl) rfl ?_ ?_
                        rotate_left
                        · go_simp
                          rfl
                        refine hK.out _ _ trivial (fun hHeld => ?_)
                        clear hK K
                        refine done_ (done_of HT_.out (by kernel_rfl)) ?_
                        go_upto_region 4 with (fail)
                        go_cut [35] (fun v35 wc => ∃ (kq : Nat) (x35_19 : Bool), v35 = .bool x35_19 ∧ Aside0 (gangwayref05_Parse.j0 kq x35_19 (wrap64 (t133)) t134 ((t135) % 4294967296) t136 ((t137) % 4294967296) = some (r1, r2, r3, r4, r5, r6)) ∧ Aside0 (kq ≤ k) ∧ Aside0 (wc.heap[gb132]? = some (.cells #[.int .i64 0, .int .u64 0, .int .u32 0, .int .u64 0, .int .u32 0] 25 (0, 0))) ∧ Aside0 (wc.heap[gb138]? = some (.cells #[.int .i64 (wrap64 (t133)), .int .u64 t134, .int .u32 ((t135) % 4294967296), .int .u64 t136, .int .u32 ((t137) % 4294967296)] 25 (0, 0))) ∧ Aside0 (Below w.heap.size w wc))
                        case first =>
                          have H := HC20.out
                          clear HC20
                          by_cases c30 : 0 ≤ 6
                          · rw [if_pos c30] at H
                            have c30b0 := eq_true c30
                            have c30b1 : decide (0 ≤ 6) = true := decide_eq_true c30
                            clear c30
                            by_cases c31 : 6 ≤ (a0.size : Int)
                            · rw [if_pos c31] at H
                              have c31b0 := eq_true c31
                              have c31b1 : decide (6 ≤ (a0.size : Int)) = true := decide_eq_true c31
                              clear c31
                              by_cases c32 : (a0.extract 0 6).toList = ([0, 1, 8, 0, 6, 4] : List UInt8)
                              · rw [if_pos c32] at H
                                have c32b0 : ((a0.extract 0 6).toList == ([0, 1, 8, 0, 6, 4] : List UInt8)) = true := beq_iff_eq.mpr c32
                                have c32b1 : ((a0.extract 0 6).toList != ([0, 1, 8, 0, 6, 4] : List UInt8)) = false := bne_eq_false_iff_eq.mpr c32
                                clear c32
                                (first | rw [c32b0] | (simp only [i64_w, i32_w]; rw [c32b0]) | skip)
                                replace H := Option.bind_eq_some_iff.mp H
                                obtain ⟨t139, A330, H⟩ := H
                                replace H : (gangwayref05_Parse.j0 k (t139 != 0) (wrap64 (t133)) t134 ((t135) % 4294967296) t136 ((t137) % 4294967296)) = some (r1, r2, r3, r4, r5, r6) := H
                                have A33 := Aside0.mk A330
                                clear A330
                                have H' := Aside0.mk H
                                clear H
                                have hnb34 := NB138_132.out
                                have hnc34 := NB132_138.out
                                have hcz35_0 : w24.cell? ⟨gb138, 0, none⟩ = some (.int .i64 0) := (blk_cell BK138.out 0).trans rfl
                                have hcz35_1 : w24.cell? ⟨gb138, 1, none⟩ = some (.int .u64 0) := (blk_cell BK138.out 1).trans rfl
                                have hcz35_2 : w24.cell? ⟨gb138, 2, none⟩ = some (.int .u32 0) := (blk_cell BK138.out 2).trans rfl
                                have hcz35_3 : w24.cell? ⟨gb138, 3, none⟩ = some (.int .u64 0) := (blk_cell BK138.out 3).trans rfl
                                have hcz35_4 : w24.cell? ⟨gb138, 4, none⟩ = some (.int .u32 0) := (blk_cell BK138.out 4).trans rfl
                                have hfz35_0 := blk_frozen BK138.out 0
                                have hfz35_1 := blk_frozen BK138.out 1
                                have hfz35_2 := blk_frozen BK138.out 2
                                have hfz35_3 := blk_frozen BK138.out 3
                                have hfz35_4 := blk_frozen BK138.out 4
                                go_wp2_with (first | (go_at_call 13; (with_reducible refine (gangwayref05_Check.calls (wrap64 (t133)) t134 ((t135) % 4294967296) t136 ((t137) % 4294967296) t139 _ A33.out).mono ?_); rintro e w36 ⟨rfl, hb⟩; have n0_ := Aside0.mk (blk_below (g := gb132) (o := .cells #[.int .i64 0, .int .u64 0, .int .u32 0, .int .u64 0, .int .u32 0] 25 (0, 0)) (by (with_reducible repeat (first | refine blk_drewN ?_ _ | refine blk_drew ?_ | refine blk_alloc ?_ _)); refine blk_far ?_ NB132_138.out _; (with_reducible repeat (first | refine blk_drewN ?_ _ | refine blk_drew ?_ | refine blk_alloc ?_ _)); refine blk_far ?_ NB132_138.out _; (with_reducible repeat (first | refine blk_drewN ?_ _ | refine blk_drew ?_ | refine blk_alloc ?_ _)); refine blk_far ?_ NB132_138.out _; (with_reducible repeat (first | refine blk_drewN ?_ _ | refine blk_drew ?_ | refine blk_alloc ?_ _)); refine blk_far ?_ NB132_138.out _; (with_reducible repeat (first | refine blk_drewN ?_ _ | refine blk_drew ?_ | refine blk_alloc ?_ _)); refine blk_far ?_ NB132_138.out _; (with_reducible repeat (first | refine blk_drewN ?_ _ | refine blk_drew ?_ | refine blk_alloc ?_ _)); exact BK132.out) hb); have n1_ := Aside0.mk (blk_below (g := gb138) (o := .cells #[.int .i64 (wrap64 (t133)), .int .u64 t134, .int .u32 ((t135) % 4294967296), .int .u64 t136, .int .u32 ((t137) % 4294967296)] 25 (0, 0)) (by (with_reducible repeat (first | refine blk_drewN ?_ _ | refine blk_drew ?_ | refine blk_alloc ?_ _)); refine blk_put (cs := #[.int .i64 (wrap64 (t133)), .int .u64 t134, .int .u32 ((t135) % 4294967296), .int .u64 t136, .int .u32 0]) ?_ 4 _ rfl; (with_reducible repeat (first | refine blk_drewN ?_ _ | refine blk_drew ?_ | refine blk_alloc ?_ _)); refine blk_put (cs := #[.int .i64 (wrap64 (t133)), .int .u64 t134, .int .u32 ((t135) % 4294967296), .int .u64 0, .int .u32 0]) ?_ 3 _ rfl; (with_reducible repeat (first | refine blk_drewN ?_ _ | refine blk_drew ?_ | refine blk_alloc ?_ _)); refine blk_put (cs := #[.int .i64 (wrap64 (t133)), .int .u64 t134, .int .u32 0, .int .u64 0, .int .u32 0]) ?_ 2 _ rfl; (with_reducible repeat (first | refine blk_drewN ?_ _ | refine blk_drew ?_ | refine blk_alloc ?_ _)); refine blk_put (cs := #[.int .i64 (wrap64 (t133)), .int .u64 0, .int .u32 0, .int .u64 0, .int .u32 0]) ?_ 1 _ rfl; (with_reducible repeat (first | refine blk_drewN ?_ _ | refine blk_drew ?_ | refine blk_alloc ?_ _)); refine blk_put (cs := #[.int .i64 0, .int .u64 0, .int .u32 0, .int .u64 0, .int .u32 0]) ?_ 0 _ rfl; (with_reducible repeat (first | refine blk_drewN ?_ _ | refine blk_drew ?_ | refine blk_alloc ?_ _)); exact BK138.out) hb); have n2_ := Aside0.mk (below_step (by repeat (first | (with_reducible first | exact HB.out | apply below_alloc | apply pw_below_drewN | apply below_drew1 | refine below_set ?_ GE132.out | refine below_set ?_ GE138.out) | exact HB.out)) hb); clear BK132; clear BK138; clear HB; have BK132 := n0_; have BK138 := n1_; have HB := n2_; clear n0_ n1_ n2_; have hcy1_132_0 := (show World.cell? _ ⟨gb132, 0, none⟩ = some (.int .i64 0) from (blk_cell BK132.out 0).trans rfl); have hcy1_132_1 := (show World.cell? _ ⟨gb132, 1, none⟩ = some (.int .u64 0) from (blk_cell BK132.out 1).trans rfl); have hcy1_132_2 := (show World.cell? _ ⟨gb132, 2, none⟩ = some (.int .u32 0) from (blk_cell BK132.out 2).trans rfl); have hcy1_132_3 := (show World.cell? _ ⟨gb132, 3, none⟩ = some (.int .u64 0) from (blk_cell BK132.out 3).trans rfl); have hcy1_132_4 := (show World.cell? _ ⟨gb132, 4, none⟩ = some (.int .u32 0) from (blk_cell BK132.out 4).trans rfl); (try clear hb); (try clear hb2); (try clear hk); (try clear hi)))
                                go_meet
                                case rel => exact ⟨_, ((t139 != 0)), (by first | rfl | (simp; done) | (simp [*]; done)), H', ⟨by first | omega | exact Nat.le_refl _⟩, ⟨by (with_reducible repeat (first | refine blk_drewN ?_ _ | refine blk_drew ?_ | refine blk_alloc ?_ _)); exact BK132.out⟩, ⟨by (with_reducible repeat (first | refine blk_drewN ?_ _ | refine blk_drew ?_ | refine blk_alloc ?_ _)); exact BK138.out⟩, ⟨by repeat (first | (with_reducible first | exact HB.out | apply below_alloc | apply pw_below_drewN | apply below_drew1 | refine below_set ?_ GE132.out | refine below_set ?_ GE138.out) | exact HB.out)⟩⟩
                              · rw [if_neg c32] at H
                                have c32b0 : ((a0.extract 0 6).toList == ([0, 1, 8, 0, 6, 4] : List UInt8)) = false := beq_eq_false_iff_ne.mpr c32
                                have c32b1 : ((a0.extract 0 6).toList != ([0, 1, 8, 0, 6, 4] : List UInt8)) = true := bne_iff_ne.mpr c32
                                (first | rw [c32b0] | (simp only [i64_w, i32_w]; rw [c32b0]) | skip)
                                have H' := Aside0.mk H
                                clear H
                                go_wp2
                                go_meet
                                case rel => exact ⟨_, (true), (by first | rfl | (simp; done) | (simp [*]; done)), H', ⟨by first | omega | exact Nat.le_refl _⟩, ⟨by (with_reducible repeat (first | refine blk_drewN ?_ _ | refine blk_drew ?_ | refine blk_alloc ?_ _)); refine blk_far ?_ NB132_138.out _; (with_reducible repeat (first | refine blk_drewN ?_ _ | refine blk_drew ?_ | refine blk_alloc ?_ _)); refine blk_far ?_ NB132_138.out _; (with_reducible repeat (first | refine blk_drewN ?_ _ | refine blk_drew ?_ | refine blk_alloc ?_ _)); refine blk_far ?_ NB132_138.out _; (with_reducible repeat (first | refine blk_drewN ?_ _ | refine blk_drew ?_ | refine blk_alloc ?_ _)); refine blk_far ?_ NB132_138.out _; (with_reducible repeat (first | refine blk_drewN ?_ _ | refine blk_drew ?_ | refine blk_alloc ?_ _)); refine blk_far ?_ NB132_138.out _; (with_reducible repeat (first | refine blk_drewN ?_ _ | refine blk_drew ?_ | refine blk_alloc ?_ _)); exact BK132.out⟩, ⟨by (with_reducible repeat (first | refine blk_drewN ?_ _ | refine blk_drew ?_ | refine blk_alloc ?_ _)); refine blk_put (cs := #[.int .i64 (wrap64 (t133)), .int .u64 t134, .int .u32 ((t135) % 4294967296), .int .u64 t136, .int .u32 0]) ?_ 4 _ rfl; (with_reducible repeat (first | refine blk_drewN ?_ _ | refine blk_drew ?_ | refine blk_alloc ?_ _)); refine blk_put (cs := #[.int .i64 (wrap64 (t133)), .int .u64 t134, .int .u32 ((t135) % 4294967296), .int .u64 0, .int .u32 0]) ?_ 3 _ rfl; (with_reducible repeat (first | refine blk_drewN ?_ _ | refine blk_drew ?_ | refine blk_alloc ?_ _)); refine blk_put (cs := #[.int .i64 (wrap64 (t133)), .int .u64 t134, .int .u32 0, .int .u64 0, .int .u32 0]) ?_ 2 _ rfl; (with_reducible repeat (first | refine blk_drewN ?_ _ | refine blk_drew ?_ | refine blk_alloc ?_ _)); refine blk_put (cs := #[.int .i64 (wrap64 (t133)), .int .u64 0, .int .u32 0, .int .u64 0, .int .u32 0]) ?_ 1 _ rfl; (with_reducible repeat (first | refine blk_drewN ?_ _ | refine blk_drew ?_ | refine blk_alloc ?_ _)); refine blk_put (cs := #[.int .i64 0, .int .u64 0, .int .u32 0, .int .u64 0, .int .u32 0]) ?_ 0 _ rfl; (with_reducible repeat (first | refine blk_drewN ?_ _ | refine blk_drew ?_ | refine blk_alloc ?_ _)); exact BK138.out⟩, ⟨by repeat (first | (with_reducible first | exact HB.out | apply below_alloc | apply pw_below_drewN | apply below_drew1 | refine below_set ?_ GE132.out | refine below_set ?_ GE138.out) | exact HB.out)⟩⟩
                            · rw [if_neg c31] at H
                              exact absurd H (by simp)
                          · rw [if_neg c30] at H
                            exact absurd H (by simp)
                        case rest =>
                          clear HC20
                          try clear c2
                          try clear p2
                          try clear c3
                          try clear p6
                          try clear c24
                          try clear c30
                          try clear c30b0
                          try clear c30b1
                          try clear c31
                          try clear c31b0
                          try clear c31b1
                          try clear c32
                          try clear c32b0
                          try clear c32b1
                          try clear c34
                          try clear hcz35_0
                          try clear hcz35_1
                          try clear hcz35_2
                          try clear hcz35_3
                          try clear hcz35_4
                          try clear hfz35_0
                          try clear hfz35_1
                          try clear hfz35_2
                          try clear hfz35_3
                          try clear hfz35_4
                          obtain ⟨kq, x35_19, rfl, HA, HJ19, BK132, BK138, HB⟩ := hcut
                          cases kq with
                          | zero => exact absurd HA.out (by simp [gangwayref05_Parse.j0])
                          | succ kj19 =>
                            have H := HA.out
                            clear HA
                            simp only [gangwayref05_Parse.j0] at H
                            by_cases c37 : x35_19 = true
                            · subst c37
                              have H1 : (some (0, 0, 0, 0, 0, 51)) = some (r1, r2, r3, r4, r5, r6) := by rw [if_pos rfl] at H; exact H
                              clear H
                              have H := H1
                              clear H1
                              simp only [Option.some.injEq, Prod.mk.injEq] at H
                              obtain ⟨rfl, rfl, rfl, rfl, rfl, rfl⟩ := H
                              have hnb38 := NB132_138.out
                              have hnc38 := NB138_132.out
                              have hcz39_0 : wc.cell? ⟨gb132, 0, none⟩ = some (.int .i64 0) := (blk_cell BK132.out 0).trans rfl
                              have hcz39_1 : wc.cell? ⟨gb132, 1, none⟩ = some (.int .u64 0) := (blk_cell BK132.out 1).trans rfl
                              have hcz39_2 : wc.cell? ⟨gb132, 2, none⟩ = some (.int .u32 0) := (blk_cell BK132.out 2).trans rfl
                              have hcz39_3 : wc.cell? ⟨gb132, 3, none⟩ = some (.int .u64 0) := (blk_cell BK132.out 3).trans rfl
                              have hcz39_4 : wc.cell? ⟨gb132, 4, none⟩ = some (.int .u32 0) := (blk_cell BK132.out 4).trans rfl
                              have hfz39_0 := blk_frozen BK132.out 0
                              have hfz39_1 := blk_frozen BK132.out 1
                              have hfz39_2 := blk_frozen BK132.out 2
                              have hfz39_3 := blk_frozen BK132.out 3
                              have hfz39_4 := blk_frozen BK132.out 4
                              go_wp2
                              refine bodyPost_ret (results_ct rfl _ _ gb132 25 #[.int .i64 0, .int .u64 0, .int .u32 0, .int .u64 0, .int .u32 0] (0, 0) _ rfl (by (with_reducible repeat (first | refine blk_drewN ?_ _ | refine blk_drew ?_ | refine blk_alloc ?_ _)); refine blk_put (cs := #[.int .i64 0, .int .u64 0, .int .u32 0, .int .u64 0, .int .u32 0]) ?_ 4 _ rfl; (with_reducible repeat (first | refine blk_drewN ?_ _ | refine blk_drew ?_ | refine blk_alloc ?_ _)); refine blk_put (cs := #[.int .i64 0, .int .u64 0, .int .u32 0, .int .u64 0, .int .u32 0]) ?_ 3 _ rfl; (with_reducible repeat (first | refine blk_drewN ?_ _ | refine blk_drew ?_ | refine blk_alloc ?_ _)); refine blk_put (cs := #[.int .i64 0, .int .u64 0, .int .u32 0, .int .u64 0, .int .u32 0]) ?_ 2 _ rfl; (with_reducible repeat (first | refine blk_drewN ?_ _ | refine blk_drew ?_ | refine blk_alloc ?_ _)); refine blk_put (cs := #[.int .i64 0, .int .u64 0, .int .u32 0, .int .u64 0, .int .u32 0]) ?_ 1 _ rfl; (with_reducible repeat (first | refine blk_drewN ?_ _ | refine blk_drew ?_ | refine blk_alloc ?_ _)); refine blk_put (cs := #[.int .i64 0, .int .u64 0, .int .u32 0, .int .u64 0, .int .u32 0]) ?_ 0 _ rfl; (with_reducible repeat (first | refine blk_drewN ?_ _ | refine blk_drew ?_ | refine blk_alloc ?_ _)); exact BK132.out) Tryd.underlying25 rfl (by kernel_rfl)) rfl ?_
                              exact ⟨by first | rfl | (simp [errW_none, errW_some] <;> rfl) | (simp [*, errW_none, errW_some] <;> rfl) | (simp [*, IntKind.wrap_u32]; done) | (simp_all [IntKind.wrap_u32]; done), by repeat (first | (with_reducible first | exact HB.out | apply below_alloc | apply pw_below_drewN | apply below_drew1 | refine below_set ?_ GE132.out | refine below_set ?_ GE138.out) | exact HB.out)⟩
                            · replace c37 := Bool.eq_false_iff.mpr c37
                              subst c37
                              have H1 : (some ((wrap64 (t133)), t134, ((t135) % 4294967296), t136, ((t137) % 4294967296), 0)) = some (r1, r2, r3, r4, r5, r6) := by rw [if_neg (show ¬ (false = true) by decide)] at H; exact H
                              clear H
                              have H := H1
                              clear H1
                              simp only [Option.some.injEq, Prod.mk.injEq] at H
                              obtain ⟨rfl, rfl, rfl, rfl, rfl, rfl⟩ := H
                              have hnb40 := NB138_132.out
                              have hnc40 := NB132_138.out
                              have hcz41_0 : wc.cell? ⟨gb138, 0, none⟩ = some (.int .i64 (wrap64 (t133))) := (blk_cell BK138.out 0).trans rfl
                              have hcz41_1 : wc.cell? ⟨gb138, 1, none⟩ = some (.int .u64 t134) := (blk_cell BK138.out 1).trans rfl
                              have hcz41_2 : wc.cell? ⟨gb138, 2, none⟩ = some (.int .u32 ((t135) % 4294967296)) := (blk_cell BK138.out 2).trans rfl
                              have hcz41_3 : wc.cell? ⟨gb138, 3, none⟩ = some (.int .u64 t136) := (blk_cell BK138.out 3).trans rfl
                              have hcz41_4 : wc.cell? ⟨gb138, 4, none⟩ = some (.int .u32 ((t137) % 4294967296)) := (blk_cell BK138.out 4).trans rfl
                              have hfz41_0 := blk_frozen BK138.out 0
                              have hfz41_1 := blk_frozen BK138.out 1
                              have hfz41_2 := blk_frozen BK138.out 2
                              have hfz41_3 := blk_frozen BK138.out 3
                              have hfz41_4 := blk_frozen BK138.out 4
                              have hcz42_0 : wc.cell? ⟨gb132, 0, none⟩ = some (.int .i64 0) := (blk_cell BK132.out 0).trans rfl
                              have hcz42_1 : wc.cell? ⟨gb132, 1, none⟩ = some (.int .u64 0) := (blk_cell BK132.out 1).trans rfl
                              have hcz42_2 : wc.cell? ⟨gb132, 2, none⟩ = some (.int .u32 0) := (blk_cell BK132.out 2).trans rfl
                              have hcz42_3 : wc.cell? ⟨gb132, 3, none⟩ = some (.int .u64 0) := (blk_cell BK132.out 3).trans rfl
                              have hcz42_4 : wc.cell? ⟨gb132, 4, none⟩ = some (.int .u32 0) := (blk_cell BK132.out 4).trans rfl
                              have hfz42_0 := blk_frozen BK132.out 0
                              have hfz42_1 := blk_frozen BK132.out 1
                              have hfz42_2 := blk_frozen BK132.out 2
                              have hfz42_3 := blk_frozen BK132.out 3
                              have hfz42_4 := blk_frozen BK132.out 4
                              go_wp2
                              refine bodyPost_ret (results_ct rfl _ _ gb132 25 #[.int .i64 (wrap64 (t133)), .int .u64 t134, .int .u32 ((t135) % 4294967296), .int .u64 t136, .int .u32 ((t137) % 4294967296)] (0, 0) _ rfl (by (with_reducible repeat (first | refine blk_drewN ?_ _ | refine blk_drew ?_ | refine blk_alloc ?_ _)); refine blk_put (cs := #[.int .i64 (wrap64 (t133)), .int .u64 t134, .int .u32 ((t135) % 4294967296), .int .u64 t136, .int .u32 0]) ?_ 4 _ rfl; (with_reducible repeat (first | refine blk_drewN ?_ _ | refine blk_drew ?_ | refine blk_alloc ?_ _)); refine blk_put (cs := #[.int .i64 (wrap64 (t133)), .int .u64 t134, .int .u32 ((t135) % 4294967296), .int .u64 0, .int .u32 0]) ?_ 3 _ rfl; (with_reducible repeat (first | refine blk_drewN ?_ _ | refine blk_drew ?_ | refine blk_alloc ?_ _)); refine blk_put (cs := #[.int .i64 (wrap64 (t133)), .int .u64 t134, .int .u32 0, .int .u64 0, .int .u32 0]) ?_ 2 _ rfl; (with_reducible repeat (first | refine blk_drewN ?_ _ | refine blk_drew ?_ | refine blk_alloc ?_ _)); refine blk_put (cs := #[.int .i64 (wrap64 (t133)), .int .u64 0, .int .u32 0, .int .u64 0, .int .u32 0]) ?_ 1 _ rfl; (with_reducible repeat (first | refine blk_drewN ?_ _ | refine blk_drew ?_ | refine blk_alloc ?_ _)); refine blk_put (cs := #[.int .i64 0, .int .u64 0, .int .u32 0, .int .u64 0, .int .u32 0]) ?_ 0 _ rfl; (with_reducible repeat (first | refine blk_drewN ?_ _ | refine blk_drew ?_ | refine blk_alloc ?_ _)); exact BK132.out) Tryd.underlying25 rfl (by kernel_rfl)) rfl ?_
                              exact ⟨by first | rfl | (simp [errW_none, errW_some] <;> rfl) | (simp [*, errW_none, errW_some] <;> rfl) | (simp [*, IntKind.wrap_u32]; done) | (simp_all [IntKind.wrap_u32]; done), by repeat (first | (with_reducible first | exact HB.out | apply below_alloc | apply pw_below_drewN | apply below_drew1 | refine below_set ?_ GE132.out | refine below_set ?_ GE138.out) | exact HB.out)⟩
                      · rw [if_neg c18] at H
                        exact absurd H (by simp)
                    · rw [if_neg c17] at H
                      exact absurd H (by simp)
                  · rw [if_neg c15] at H
                    exact absurd H (by simp)
                · rw [if_neg c14] at H
                  exact absurd H (by simp)
              · rw [if_neg c12] at H
                exact absurd H (by simp)
            · rw [if_neg c11] at H
              exact absurd H (by simp)
          · rw [if_neg c9] at H
            exact absurd H (by simp)
        · rw [if_neg c8] at H
          exact absurd H (by simp)
      · rw [if_neg c6] at H
        exact absurd H (by simp)
    · rw [if_neg c5] at H
      exact absurd H (by simp)

end Go.Proofs.YtjlikmonnnbnaaaDoor.P
