-- squeezed
-- Written by wip/hprint.py (this session's program) through the kit's print program; hand contracts are marked 'by hand'.
import Derived.Test.YtigagipeaheclaaDoorPx0
import Derived.Test.YtigagipeaheclaaDoorPx10
import Derived.Test.YtigagipeaheclaaDoorPx20
namespace Go.Proofs.YtigagipeaheclaaDoor.P
open Go.RowKit Go.Proofs.YtigagipeaheclaaDoorW.PrintWords Go.Proofs.YtigagipeaheclaaDoorW.PrintLast Go.Proofs.YtigagipeaheclaaDoorW.PrintMore
attribute [local go_sem] max2_int min2_int max_two min_two max_three min_three max_four min_four   -- for this text's walks alone
set_option linter.unusedVariables false
set_option linter.unusedSimpArgs false

/-! ### gangwayref06_Parse: function 17 -/
def gangwayref06_Parse.j0 : Nat → ByteArray → Int → Int → Bool → Option (Int × Int × Bool × Bool × Int × Int × Int × Int × Int × ByteArray × Int)
 | 0, _, _, _, _ => none
 | k + 1, x0, x4, x5, x28 => if x28 = true then (some (0, 0, false, false, 0, 0, 0, 0, 0, (⟨#[]⟩ : ByteArray), 61)) else (if x4 > (x0.size : Int) then (some (0, 0, false, false, 0, 0, 0, 0, 0, (⟨#[]⟩ : ByteArray), 60)) else ((gangwayref06_num.f k x0 1 2).bind fun t314 => ((gangwayref06_num.f k x0 4 6).bind fun t315 => ((gangwayref06_num.f k x0 8 9).bind fun t316 => ((gangwayref06_num.f k x0 9 10).bind fun t317 => ((gangwayref06_num.f k x0 12 16).bind fun t318 => ((gangwayref06_num.f k x0 16 20).bind fun t319 => (if 20 ≤ x4 then (if x4 ≤ (x0.size : Int) then (some (t314, t315, ((wrap64 (Int.tdiv x5 16384)) == 1), ((Int.tmod (wrap64 (Int.tdiv x5 8192)) 2) == 1), Int.tmod x5 8192, t316, t317, (t318) % 4294967296, (t319) % 4294967296, x0.extract 20 (x4 : Int).toNat, 0)) else (none)) else (none)))))))))
def gangwayref06_Parse.f (k : Nat) (a0 : ByteArray) : Option (Int × Int × Bool × Bool × Int × Int × Int × Int × Int × ByteArray × Int) := if (a0.size : Int) < 20 then (some (0, 0, false, false, 0, 0, 0, 0, 0, (⟨#[]⟩ : ByteArray), 60)) else (if 0 < (a0.size : Int) then (if (bt a0 0) = 69 then (if 0 ≤ 20 then (if 20 ≤ (a0.size : Int) then ((gangwayref03_Of.f k (a0.extract 0 20)).bind fun t311 => (if t311 = 0 then ((gangwayref06_num.f k a0 2 4).bind fun t312 => ((gangwayref06_num.f k a0 6 8).bind fun t313 => (if t312 < 20 then (gangwayref06_Parse.j0 k a0 t312 t313 true) else (gangwayref06_Parse.j0 k a0 t312 t313 (decide (t313 ≥ 32768)))))) else (some (0, 0, false, false, 0, 0, 0, 0, 0, (⟨#[]⟩ : ByteArray), 62)))) else (none)) else (none)) else (some (0, 0, false, false, 0, 0, 0, 0, 0, (⟨#[]⟩ : ByteArray), 61))) else (none))
theorem gangwayref06_Parse.mono_l : ∀ k, (∀ y0 y1 y2 y3, LeO (gangwayref06_Parse.j0 k y0 y1 y2 y3) (gangwayref06_Parse.j0 (k + 1) y0 y1 y2 y3))
 | 0 => fun _ _ _ _ r h => by simp [gangwayref06_Parse.j0] at h
 | k + 1 => by
  have ih0 := gangwayref06_Parse.mono_l k
  ·intro y0 y1 y2 y3
   unfold gangwayref06_Parse.j0
   repeat' first
   | (with_reducible exact ih0 _ _ _ _)
   | (with_reducible exact gangwayref03_Of.mono _ _)
   | (with_reducible exact gangwayref06_num.mono _ _ _ _)
   | (with_reducible exact LeO.refl _)
   | (with_reducible exact LeO.none _)
   | (with_reducible refine LeO.ite ?_ ?_)
   | (with_reducible refine LeO.bind ?_ (fun _ => ?_))
   | exact ih0 _ _ _ _
   | exact gangwayref03_Of.mono _ _
   | exact gangwayref06_num.mono _ _ _ _
   | exact LeO.none _
   | refine LeO.ite ?_ ?_
   | refine LeO.bind ?_ (fun _ => ?_)
theorem gangwayref06_Parse.mono : ∀ a0 k, LeO (gangwayref06_Parse.f k a0) (gangwayref06_Parse.f (k + 1) a0) := by
 intro a0 k
 have ih0 := gangwayref06_Parse.mono_l k
 unfold gangwayref06_Parse.f
 repeat' first
   | (with_reducible exact ih0 _ _ _ _)
   | (with_reducible exact gangwayref03_Of.mono _ _)
   | (with_reducible exact gangwayref06_num.mono _ _ _ _)
   | (with_reducible exact LeO.refl _)
   | (with_reducible exact LeO.none _)
   | (with_reducible refine LeO.ite ?_ ?_)
   | (with_reducible refine LeO.bind ?_ (fun _ => ?_))
   | exact ih0 _ _ _ _
   | exact gangwayref03_Of.mono _ _
   | exact gangwayref06_num.mono _ _ _ _
   | exact LeO.none _
   | refine LeO.ite ?_ ?_
   | refine LeO.bind ?_ (fun _ => ?_)
def gangwayref06_Parse.T12 : Bool × List (List Nat × List Nat) := (true, [([], []), ([0], [0]), ([], []), ([2, 1], [2]), ([], []), ([4], [4]), ([5], [5]), ([], []), ([7], [7]), ([8], [8]), ([9], [9]), ([], []), ([11], [11]), ([], []), ([13, 3], [13]), ([], []), ([15, 14], [15]), ([], []), ([17, 16], [17]), ([18], [18]), ([], []), ([20, 18], [20]), ([21], [21]), ([], []), ([], []), ([23, 24], [23, 24]), ([1, 3, 6, 10, 12, 14, 16, 19, 22, 25], [1, 3, 6, 10, 12, 14, 16, 19, 22, 25]), ([26, 21, 0, 1, 2, 3, 4, 5, 6, 7, 8, 9, 10, 11, 12, 13, 14, 15, 16, 17, 18, 19, 20, 21, 22, 23, 24, 25, 26], [26]), ([27, 0, 1, 2, 3, 4, 5, 6, 7, 8, 9, 10, 11, 12, 13, 14, 15, 16, 17, 18, 19, 20, 21, 22, 23, 24, 25, 26, 27], [])])
def gangwayref06_Parse.B12 : List Nat := [0, 1, 0, 7, 0, 16, 48, 0, 128, 384, 896, 0, 2048, 0, 8207, 0, 57359, 0, 253967, 516111, 0, 1564687, 3661839, 0, 0, 25165824, 67108863, 134217727, 268435455]
theorem gangwayref06_Parse.tab12 : rtab .any (opsOf Tryd.f17 12) = gangwayref06_Parse.T12 := by kernel_rfl
theorem gangwayref06_Parse.bits12 : waitsOk gangwayref06_Parse.T12.2 gangwayref06_Parse.B12 = true := by kernel_rfl
set_option maxHeartbeats 8000000 in
set_option maxRecDepth 100000 in
theorem gangwayref06_Parse.calls (k : Nat) (a0 : ByteArray) (r1 : Int) (r2 : Int) (r3 : Bool) (r4 : Bool) (r5 : Int) (r6 : Int) (r7 : Int) (r8 : Int) (r9 : Int) (r10 : ByteArray) (r11 : Int) (w : World) (h : gangwayref06_Parse.f k a0 = some (r1, r2, r3, r4, r5, r6, r7, r8, r9, r10, r11)) :
  Calls Tryd.prog 17 #[.string a0] w fun e w' => e = .returned (.tuple #[.agg #[.int .i64 r1, .int .i64 r2, .bool r3, .bool r4, .int .i64 r5, .int .i64 r6, .int .i64 r7, .int .u32 r8, .int .u32 r9, .string r10], .int .i64 r11]) ∧ Below w.heap.size w w' := by
 have hu24 := Tryd.underlying24
 have HB := Aside0.mk (Below.refl w.heap.size w)
 have H : (if (a0.size : Int) < 20 then (some (0, 0, false, false, 0, 0, 0, 0, 0, (⟨#[]⟩ : ByteArray), 60)) else (if 0 < (a0.size : Int) then (if (bt a0 0) = 69 then (if 0 ≤ 20 then (if 20 ≤ (a0.size : Int) then ((gangwayref03_Of.f k (a0.extract 0 20)).bind fun t311 => (if t311 = 0 then ((gangwayref06_num.f k a0 2 4).bind fun t312 => ((gangwayref06_num.f k a0 6 8).bind fun t313 => (if t312 < 20 then (gangwayref06_Parse.j0 k a0 t312 t313 true) else (gangwayref06_Parse.j0 k a0 t312 t313 (decide (t313 ≥ 32768)))))) else (some (0, 0, false, false, 0, 0, 0, 0, 0, (⟨#[]⟩ : ByteArray), 62)))) else (none)) else (none)) else (some (0, 0, false, false, 0, 0, 0, 0, 0, (⟨#[]⟩ : ByteArray), 61))) else (none))) = some (r1, r2, r3, r4, r5, r6, r7, r8, r9, r10, r11) := h
 clear h
 by_cases c2 : (a0.size : Int) < 20
 ·rw [if_pos c2] at H
  have c2b0 : decide ((a0.size : Int) < 20) = true := decide_eq_true c2
  have c2b1 : decide (a0.size < 20) = true := decide_eq_true (by omega)
  clear c2
  simp only [Option.some.injEq, Prod.mk.injEq] at H
  obtain ⟨rfl, rfl, rfl, rfl, rfl, rfl, rfl, rfl, rfl, rfl, rfl⟩ := H
  go_enter Tryd.func17, Tryd.ntmps17
  go_wp2_with (first | ((with_reducible refine gate_dst (N := 2) rfl ?_); refine box_event ?hg (N := 2) ?hd (cs := #[.int .i64 0, .int .i64 0, .bool false, .bool false, .int .i64 0, .int .i64 0, .int .i64 0, .int .u32 0, .int .u32 0, .string (⟨#[]⟩ : ByteArray)]) (t := 24) ?hr ?_; (case hd => rfl); (case hg => rfl); (case hr => first | (go_simp; done) | (go_simp; rfl)); intro gb310 hg w3 hbox hb; have n0_ := Aside0.mk (below_step (by repeat (first | (with_reducible first | exact HB.out | apply below_alloc | apply pw_below_drewN | apply below_drew1) | exact HB.out)) hb); have n1_ := Aside0.mk (hbox); have n2_ := Aside0.mk ((by rw [hg]; exact (below_size (by repeat (first | (with_reducible first | exact HB.out | apply below_alloc | apply pw_below_drewN | apply below_drew1) | exact HB.out))) : w.heap.size ≤ gb310)); have n3_ := Aside0.mk ((by rw [hg]; exact (below_size (by repeat (first | (with_reducible first | exact HB.out | apply below_alloc | apply pw_below_drewN | apply below_drew1) | exact HB.out))) : w.heap.size ≤ gb310)); clear HB; have HB := n0_; have BK310 := n1_; have GW310 := n2_; have GE310 := n3_; clear n0_ n1_ n2_ n3_; clear hb hbox hg; have hcz4_0 : w3.cell? ⟨gb310, 0, none⟩ = some (.int .i64 0) := (blk_cell BK310.out 0).trans rfl; have hcz4_1 : w3.cell? ⟨gb310, 1, none⟩ = some (.int .i64 0) := (blk_cell BK310.out 1).trans rfl; have hcz4_2 : w3.cell? ⟨gb310, 2, none⟩ = some (.bool false) := (blk_cell BK310.out 2).trans rfl; have hcz4_3 : w3.cell? ⟨gb310, 3, none⟩ = some (.bool false) := (blk_cell BK310.out 3).trans rfl; have hcz4_4 : w3.cell? ⟨gb310, 4, none⟩ = some (.int .i64 0) := (blk_cell BK310.out 4).trans rfl; have hcz4_5 : w3.cell? ⟨gb310, 5, none⟩ = some (.int .i64 0) := (blk_cell BK310.out 5).trans rfl; have hcz4_6 : w3.cell? ⟨gb310, 6, none⟩ = some (.int .i64 0) := (blk_cell BK310.out 6).trans rfl; have hcz4_7 : w3.cell? ⟨gb310, 7, none⟩ = some (.int .u32 0) := (blk_cell BK310.out 7).trans rfl; have hcz4_8 : w3.cell? ⟨gb310, 8, none⟩ = some (.int .u32 0) := (blk_cell BK310.out 8).trans rfl; have hcz4_9 : w3.cell? ⟨gb310, 9, none⟩ = some (.string (⟨#[]⟩ : ByteArray)) := (blk_cell BK310.out 9).trans rfl; have hfz4_0 := blk_frozen BK310.out 0; have hfz4_1 := blk_frozen BK310.out 1; have hfz4_2 := blk_frozen BK310.out 2; have hfz4_3 := blk_frozen BK310.out 3; have hfz4_4 := blk_frozen BK310.out 4; have hfz4_5 := blk_frozen BK310.out 5; have hfz4_6 := blk_frozen BK310.out 6; have hfz4_7 := blk_frozen BK310.out 7; have hfz4_8 := blk_frozen BK310.out 8; have hfz4_9 := blk_frozen BK310.out 9))
  refine bodyPost_ret (results_ct rfl _ _ gb310 24 #[.int .i64 0, .int .i64 0, .bool false, .bool false, .int .i64 0, .int .i64 0, .int .i64 0, .int .u32 0, .int .u32 0, .string (⟨#[]⟩ : ByteArray)] (0, 0) _ rfl (by (with_reducible repeat (first | refine blk_drewN ?_ _ | refine blk_drew ?_ | refine blk_alloc ?_ _)); refine blk_put (cs := #[.int .i64 0, .int .i64 0, .bool false, .bool false, .int .i64 0, .int .i64 0, .int .i64 0, .int .u32 0, .int .u32 0, .string (⟨#[]⟩ : ByteArray)]) ?_ 9 _ rfl; (with_reducible repeat (first | refine blk_drewN ?_ _ | refine blk_drew ?_ | refine blk_alloc ?_ _)); refine blk_put (cs := #[.int .i64 0, .int .i64 0, .bool false, .bool false, .int .i64 0, .int .i64 0, .int .i64 0, .int .u32 0, .int .u32 0, .string (⟨#[]⟩ : ByteArray)]) ?_ 8 _ rfl; (with_reducible repeat (first | refine blk_drewN ?_ _ | refine blk_drew ?_ | refine blk_alloc ?_ _)); refine blk_put (cs := #[.int .i64 0, .int .i64 0, .bool false, .bool false, .int .i64 0, .int .i64 0, .int .i64 0, .int .u32 0, .int .u32 0, .string (⟨#[]⟩ : ByteArray)]) ?_ 7 _ rfl; (with_reducible repeat (first | refine blk_drewN ?_ _ | refine blk_drew ?_ | refine blk_alloc ?_ _)); refine blk_put (cs := #[.int .i64 0, .int .i64 0, .bool false, .bool false, .int .i64 0, .int .i64 0, .int .i64 0, .int .u32 0, .int .u32 0, .string (⟨#[]⟩ : ByteArray)]) ?_ 6 _ rfl; (with_reducible repeat (first | refine blk_drewN ?_ _ | refine blk_drew ?_ | refine blk_alloc ?_ _)); refine blk_put (cs := #[.int .i64 0, .int .i64 0, .bool false, .bool false, .int .i64 0, .int .i64 0, .int .i64 0, .int .u32 0, .int .u32 0, .string (⟨#[]⟩ : ByteArray)]) ?_ 5 _ rfl; (with_reducible repeat (first | refine blk_drewN ?_ _ | refine blk_drew ?_ | refine blk_alloc ?_ _)); refine blk_put (cs := #[.int .i64 0, .int .i64 0, .bool false, .bool false, .int .i64 0, .int .i64 0, .int .i64 0, .int .u32 0, .int .u32 0, .string (⟨#[]⟩ : ByteArray)]) ?_ 4 _ rfl; (with_reducible repeat (first | refine blk_drewN ?_ _ | refine blk_drew ?_ | refine blk_alloc ?_ _)); refine blk_put (cs := #[.int .i64 0, .int .i64 0, .bool false, .bool false, .int .i64 0, .int .i64 0, .int .i64 0, .int .u32 0, .int .u32 0, .string (⟨#[]⟩ : ByteArray)]) ?_ 3 _ rfl; (with_reducible repeat (first | refine blk_drewN ?_ _ | refine blk_drew ?_ | refine blk_alloc ?_ _)); refine blk_put (cs := #[.int .i64 0, .int .i64 0, .bool false, .bool false, .int .i64 0, .int .i64 0, .int .i64 0, .int .u32 0, .int .u32 0, .string (⟨#[]⟩ : ByteArray)]) ?_ 2 _ rfl; (with_reducible repeat (first | refine blk_drewN ?_ _ | refine blk_drew ?_ | refine blk_alloc ?_ _)); refine blk_put (cs := #[.int .i64 0, .int .i64 0, .bool false, .bool false, .int .i64 0, .int .i64 0, .int .i64 0, .int .u32 0, .int .u32 0, .string (⟨#[]⟩ : ByteArray)]) ?_ 1 _ rfl; (with_reducible repeat (first | refine blk_drewN ?_ _ | refine blk_drew ?_ | refine blk_alloc ?_ _)); refine blk_put (cs := #[.int .i64 0, .int .i64 0, .bool false, .bool false, .int .i64 0, .int .i64 0, .int .i64 0, .int .u32 0, .int .u32 0, .string (⟨#[]⟩ : ByteArray)]) ?_ 0 _ rfl; (with_reducible repeat (first | refine blk_drewN ?_ _ | refine blk_drew ?_ | refine blk_alloc ?_ _)); exact BK310.out) Tryd.underlying24 rfl (by kernel_rfl)) rfl ?_
  exact ⟨by first | rfl | (simp [errW_none, errW_some] <;> rfl) | (simp [*, errW_none, errW_some] <;> rfl) | (simp [*, IntKind.wrap_u32]; done) | (simp_all [IntKind.wrap_u32]; done), by repeat (first | (with_reducible first | exact HB.out | apply below_alloc | apply pw_below_drewN | apply below_drew1 | refine below_set ?_ GE310.out) | exact HB.out)⟩
 ·rw [if_neg c2] at H
  have c2b0 : decide ((a0.size : Int) < 20) = false := decide_eq_false c2
  have c2b1 : decide (a0.size < 20) = false := decide_eq_false (by omega)
  clear c2
  by_cases c5 : 0 < (a0.size : Int)
  ·rw [if_pos c5] at H
   have c5b0 : decide (0 < (a0.size : Int)) = true := decide_eq_true c5
   have c5b1 : decide (0 < a0.size) = true := decide_eq_true (by omega)
   clear c5
   by_cases c7 : (bt a0 0) = 69
   ·rw [if_pos c7] at H
    have c7b0 : ((bt a0 0) == 69) = true := beq_iff_eq.mpr c7
    have c7b1 : ((bt a0 0) != 69) = false := bne_eq_false_iff_eq.mpr c7
    clear c7
    by_cases c8 : 0 ≤ 20
    ·rw [if_pos c8] at H
     have c8b0 := eq_true c8
     have c8b1 : decide (0 ≤ 20) = true := decide_eq_true c8
     clear c8
     by_cases c9 : 20 ≤ (a0.size : Int)
     ·rw [if_pos c9] at H
      have c9b0 := eq_true c9
      have c9b1 : decide (20 ≤ (a0.size : Int)) = true := decide_eq_true c9
      clear c9
      replace H := Option.bind_eq_some_iff.mp H
      obtain ⟨t311, A100, H⟩ := H
      replace H : (if t311 = 0 then ((gangwayref06_num.f k a0 2 4).bind fun t312 => ((gangwayref06_num.f k a0 6 8).bind fun t313 => (if t312 < 20 then (gangwayref06_Parse.j0 k a0 t312 t313 true) else (gangwayref06_Parse.j0 k a0 t312 t313 (decide (t313 ≥ 32768)))))) else (some (0, 0, false, false, 0, 0, 0, 0, 0, (⟨#[]⟩ : ByteArray), 62))) = some (r1, r2, r3, r4, r5, r6, r7, r8, r9, r10, r11) := H
      have A10 := Aside0.mk A100
      clear A100
      by_cases c11 : t311 = 0
      ·rw [if_pos c11] at H
       have c11b0 : (t311 == 0) = true := beq_iff_eq.mpr c11
       have c11b1 : (t311 != 0) = false := bne_eq_false_iff_eq.mpr c11
       clear c11
       replace H := Option.bind_eq_some_iff.mp H
       obtain ⟨t312, A120, H⟩ := H
       replace H : ((gangwayref06_num.f k a0 6 8).bind fun t313 => (if t312 < 20 then (gangwayref06_Parse.j0 k a0 t312 t313 true) else (gangwayref06_Parse.j0 k a0 t312 t313 (decide (t313 ≥ 32768))))) = some (r1, r2, r3, r4, r5, r6, r7, r8, r9, r10, r11) := H
       have A12 := Aside0.mk A120
       clear A120
       replace H := Option.bind_eq_some_iff.mp H
       obtain ⟨t313, A130, H⟩ := H
       replace H : (if t312 < 20 then (gangwayref06_Parse.j0 k a0 t312 t313 true) else (gangwayref06_Parse.j0 k a0 t312 t313 (decide (t313 ≥ 32768)))) = some (r1, r2, r3, r4, r5, r6, r7, r8, r9, r10, r11) := H
       have A13 := Aside0.mk A130
       clear A130
       have HC14 := Aside0.mk H
       clear H
       go_enter Tryd.func17, Tryd.ntmps17
       go_upto_region 8 with (first | ((with_reducible refine gate_dst (N := 2) rfl ?_); refine box_event ?hg (N := 2) ?hd (cs := #[.int .i64 0, .int .i64 0, .bool false, .bool false, .int .i64 0, .int .i64 0, .int .i64 0, .int .u32 0, .int .u32 0, .string (⟨#[]⟩ : ByteArray)]) (t := 24) ?hr ?_; (case hd => rfl); (case hg => rfl); (case hr => first | (go_simp; done) | (go_simp; rfl)); intro gb310 hg w15 hbox hb; have n0_ := Aside0.mk (below_step (by repeat (first | (with_reducible first | exact HB.out | apply below_alloc | apply pw_below_drewN | apply below_drew1) | exact HB.out)) hb); have n1_ := Aside0.mk (hbox); have n2_ := Aside0.mk ((by rw [hg]; exact (below_size (by repeat (first | (with_reducible first | exact HB.out | apply below_alloc | apply pw_below_drewN | apply below_drew1) | exact HB.out))) : w.heap.size ≤ gb310)); have n3_ := Aside0.mk ((by rw [hg]; exact (below_size (by repeat (first | (with_reducible first | exact HB.out | apply below_alloc | apply pw_below_drewN | apply below_drew1) | exact HB.out))) : w.heap.size ≤ gb310)); clear HB; have HB := n0_; have BK310 := n1_; have GW310 := n2_; have GE310 := n3_; clear n0_ n1_ n2_ n3_; clear hb hbox hg; have p6 : 0 ≤ (0 : Int) := (by omega); have q6 : 0 < a0.size := (by have : (0 : Int) < (a0.size : Int) := of_decide_eq_true (by first | (with_reducible assumption) | assumption); omega); have hx6 : ∀ h : 0 < a0.size, ((a0[0]'h).toNat : Int) = bt a0 0 := bt_at a0 0; clear p6; have qi6 : (0 < (a0.size : Int)) = True := eq_true (of_decide_eq_true (by first | (with_reducible assumption) | assumption)); replace q6 := eq_true q6) | ((with_reducible refine gate_callee (f := 25) rfl ?_); refine goesL_ (some 16) rfl rfl Tryd.func25 (by kernel_rfl) rfl #[.string (a0.extract 0 20)] rfl (by (try simp only [List.map_toArray, List.map_cons, List.map_nil]); first | done | rfl | (simp only [List.length_drop, List.length_take]; rfl)) ?_; (with_reducible refine (gangwayref03_Of.calls k (a0.extract 0 20) t311 _ A10.out).mono ?_); rintro e w' ⟨rfl, ⟨nd, rfl⟩⟩; refine ⟨_, rfl, ?_⟩) | ((with_reducible refine gate_callee (f := 30) rfl ?_); refine goesL_ (some 20) rfl rfl Tryd.func30 (by kernel_rfl) rfl #[.string a0, .int .i64 2, .int .i64 4] rfl (by (try simp only [List.map_toArray, List.map_cons, List.map_nil]); first | done | rfl | (simp only [List.length_drop, List.length_take]; rfl)) ?_; (with_reducible refine (gangwayref06_num.calls k a0 2 4 t312 _ A12.out).mono ?_); rintro e w' ⟨rfl, ⟨nd, rfl⟩⟩; refine ⟨_, rfl, ?_⟩) | ((with_reducible refine gate_callee (f := 30) rfl ?_); refine goesL_ (some 22) rfl rfl Tryd.func30 (by kernel_rfl) rfl #[.string a0, .int .i64 6, .int .i64 8] rfl (by (try simp only [List.map_toArray, List.map_cons, List.map_nil]); first | done | rfl | (simp only [List.length_drop, List.length_take]; rfl)) ?_; (with_reducible refine (gangwayref06_num.calls k a0 6 8 t313 _ A13.out).mono ?_); rintro e w' ⟨rfl, ⟨nd, rfl⟩⟩; refine ⟨_, rfl, ?_⟩))
       (try simp only [Act.put, List.setIfInBounds_toArray, List.set_cons_zero, List.set_cons_succ])
       go_cut [28] (fun v28 wc => ∃ (kq : Nat) (x28_13 : Bool), v28 = .bool x28_13 ∧ Aside0 (gangwayref06_Parse.j0 kq a0 t312 t313 x28_13 = some (r1, r2, r3, r4, r5, r6, r7, r8, r9, r10, r11)) ∧ Aside0 (kq ≤ k) ∧ Aside0 (wc.heap[gb310]? = some (.cells #[.int .i64 0, .int .i64 0, .bool false, .bool false, .int .i64 0, .int .i64 0, .int .i64 0, .int .u32 0, .int .u32 0, .string (⟨#[]⟩ : ByteArray)] 24 (0, 0))) ∧ Aside0 (Below w.heap.size w wc))
       case first =>
        have H := HC14.out
        clear HC14
        by_cases c16 : t312 < 20
        ·rw [if_pos c16] at H
         have c16b0 : decide (t312 < 20) = true := decide_eq_true c16
         clear c16
         (first | rw [c16b0] | (simp only [i64_w, i32_w]; rw [c16b0]) | skip)
         have H' := Aside0.mk H
         clear H
         go_wp2
         go_meet
         case rel => exact ⟨_, (true), (by first | rfl | (simp; done) | (simp [*]; done)), H', ⟨by first | omega | exact Nat.le_refl _⟩, ⟨by (with_reducible repeat (first | refine blk_drewN ?_ _ | refine blk_drew ?_ | refine blk_alloc ?_ _)); exact BK310.out⟩, ⟨by repeat (first | (with_reducible first | exact HB.out | apply below_alloc | apply pw_below_drewN | apply below_drew1 | refine below_set ?_ GE310.out) | exact HB.out)⟩⟩
        ·rw [if_neg c16] at H
         have c16b0 : decide (t312 < 20) = false := decide_eq_false c16
         clear c16
         (first | rw [c16b0] | (simp only [i64_w, i32_w]; rw [c16b0]) | skip)
         have H' := Aside0.mk H
         clear H
         go_wp2
         go_meet
         case rel => exact ⟨_, (decide (t313 ≥ 32768)), (by first | rfl | (simp; done) | (simp [*]; done)), H', ⟨by first | omega | exact Nat.le_refl _⟩, ⟨by (with_reducible repeat (first | refine blk_drewN ?_ _ | refine blk_drew ?_ | refine blk_alloc ?_ _)); exact BK310.out⟩, ⟨by repeat (first | (with_reducible first | exact HB.out | apply below_alloc | apply pw_below_drewN | apply below_drew1 | refine below_set ?_ GE310.out) | exact HB.out)⟩⟩
       case rest =>
        clear HC14
        try clear c1
        try clear c2
        try clear c2b0
        try clear c2b1
        try clear p2
        try clear c3
        try clear c5
        try clear c5b0
        try clear c5b1
        try clear p6
        try clear q6
        try clear hx6
        try clear qi6
        try clear c7
        try clear c7b0
        try clear c7b1
        try clear c8
        try clear c8b0
        try clear c8b1
        try clear c9
        try clear c9b0
        try clear c9b1
        try clear c11
        try clear c11b0
        try clear c11b1
        try clear c16
        try clear c16b0
        try clear hcz4_0
        try clear hcz4_1
        try clear hcz4_2
        try clear hcz4_3
        try clear hcz4_4
        try clear hcz4_5
        try clear hcz4_6
        try clear hcz4_7
        try clear hcz4_8
        try clear hcz4_9
        try clear hfz4_0
        try clear hfz4_1
        try clear hfz4_2
        try clear hfz4_3
        try clear hfz4_4
        try clear hfz4_5
        try clear hfz4_6
        try clear hfz4_7
        try clear hfz4_8
        try clear hfz4_9
        try clear p6
        try clear q6
        obtain ⟨kq, x28_13, rfl, HA, HJ13, BK310, HB⟩ := hcut
        cases kq with
        | zero => exact absurd HA.out (by simp [gangwayref06_Parse.j0])
        | succ kj13 =>
         have H := HA.out
         clear HA
         simp only [gangwayref06_Parse.j0] at H
         by_cases c17 : x28_13 = true
         ·subst c17
          have H1 : (some (0, 0, false, false, 0, 0, 0, 0, 0, (⟨#[]⟩ : ByteArray), 61)) = some (r1, r2, r3, r4, r5, r6, r7, r8, r9, r10, r11) := by rw [if_pos rfl] at H; exact H
          clear H
          have H := H1
          clear H1
          simp only [Option.some.injEq, Prod.mk.injEq] at H
          obtain ⟨rfl, rfl, rfl, rfl, rfl, rfl, rfl, rfl, rfl, rfl, rfl⟩ := H
          have hcz18_0 : wc.cell? ⟨gb310, 0, none⟩ = some (.int .i64 0) := (blk_cell BK310.out 0).trans rfl
          have hcz18_1 : wc.cell? ⟨gb310, 1, none⟩ = some (.int .i64 0) := (blk_cell BK310.out 1).trans rfl
          have hcz18_2 : wc.cell? ⟨gb310, 2, none⟩ = some (.bool false) := (blk_cell BK310.out 2).trans rfl
          have hcz18_3 : wc.cell? ⟨gb310, 3, none⟩ = some (.bool false) := (blk_cell BK310.out 3).trans rfl
          have hcz18_4 : wc.cell? ⟨gb310, 4, none⟩ = some (.int .i64 0) := (blk_cell BK310.out 4).trans rfl
          have hcz18_5 : wc.cell? ⟨gb310, 5, none⟩ = some (.int .i64 0) := (blk_cell BK310.out 5).trans rfl
          have hcz18_6 : wc.cell? ⟨gb310, 6, none⟩ = some (.int .i64 0) := (blk_cell BK310.out 6).trans rfl
          have hcz18_7 : wc.cell? ⟨gb310, 7, none⟩ = some (.int .u32 0) := (blk_cell BK310.out 7).trans rfl
          have hcz18_8 : wc.cell? ⟨gb310, 8, none⟩ = some (.int .u32 0) := (blk_cell BK310.out 8).trans rfl
          have hcz18_9 : wc.cell? ⟨gb310, 9, none⟩ = some (.string (⟨#[]⟩ : ByteArray)) := (blk_cell BK310.out 9).trans rfl
          have hfz18_0 := blk_frozen BK310.out 0
          have hfz18_1 := blk_frozen BK310.out 1
          have hfz18_2 := blk_frozen BK310.out 2
          have hfz18_3 := blk_frozen BK310.out 3
          have hfz18_4 := blk_frozen BK310.out 4
          have hfz18_5 := blk_frozen BK310.out 5
          have hfz18_6 := blk_frozen BK310.out 6
          have hfz18_7 := blk_frozen BK310.out 7
          have hfz18_8 := blk_frozen BK310.out 8
          have hfz18_9 := blk_frozen BK310.out 9
          go_wp2
          refine bodyPost_ret (results_ct rfl _ _ gb310 24 #[.int .i64 0, .int .i64 0, .bool false, .bool false, .int .i64 0, .int .i64 0, .int .i64 0, .int .u32 0, .int .u32 0, .string (⟨#[]⟩ : ByteArray)] (0, 0) _ rfl (by (with_reducible repeat (first | refine blk_drewN ?_ _ | refine blk_drew ?_ | refine blk_alloc ?_ _)); refine blk_put (cs := #[.int .i64 0, .int .i64 0, .bool false, .bool false, .int .i64 0, .int .i64 0, .int .i64 0, .int .u32 0, .int .u32 0, .string (⟨#[]⟩ : ByteArray)]) ?_ 9 _ rfl; (with_reducible repeat (first | refine blk_drewN ?_ _ | refine blk_drew ?_ | refine blk_alloc ?_ _)); refine blk_put (cs := #[.int .i64 0, .int .i64 0, .bool false, .bool false, .int .i64 0, .int .i64 0, .int .i64 0, .int .u32 0, .int .u32 0, .string (⟨#[]⟩ : ByteArray)]) ?_ 8 _ rfl; (with_reducible repeat (first | refine blk_drewN ?_ _ | refine blk_drew ?_ | refine blk_alloc ?_ _)); refine blk_put (cs := #[.int .i64 0, .int .i64 0, .bool false, .bool false, .int .i64 0, .int .i64 0, .int .i64 0, .int .u32 0, .int .u32 0, .string (⟨#[]⟩ : ByteArray)]) ?_ 7 _ rfl; (with_reducible repeat (first | refine blk_drewN ?_ _ | refine blk_drew ?_ | refine blk_alloc ?_ _)); refine blk_put (cs := #[.int .i64 0, .int .i64 0, .bool false, .bool false, .int .i64 0, .int .i64 0, .int .i64 0, .int .u32 0, .int .u32 0, .string (⟨#[]⟩ : ByteArray)]) ?_ 6 _ rfl; (with_reducible repeat (first | refine blk_drewN ?_ _ | refine blk_drew ?_ | refine blk_alloc ?_ _)); refine blk_put (cs := #[.int .i64 0, .int .i64 0, .bool false, .bool false, .int .i64 0, .int .i64 0, .int .i64 0, .int .u32 0, .int .u32 0, .string (⟨#[]⟩ : ByteArray)]) ?_ 5 _ rfl; (with_reducible repeat (first | refine blk_drewN ?_ _ | refine blk_drew ?_ | refine blk_alloc ?_ _)); refine blk_put (cs := #[.int .i64 0, .int .i64 0, .bool false, .bool false, .int .i64 0, .int .i64 0, .int .i64 0, .int .u32 0, .int .u32 0, .string (⟨#[]⟩ : ByteArray)]) ?_ 4 _ rfl; (with_reducible repeat (first | refine blk_drewN ?_ _ | refine blk_drew ?_ | refine blk_alloc ?_ _)); refine blk_put (cs := #[.int .i64 0, .int .i64 0, .bool false, .bool false, .int .i64 0, .int .i64 0, .int .i64 0, .int .u32 0, .int .u32 0, .string (⟨#[]⟩ : ByteArray)]) ?_ 3 _ rfl; (with_reducible repeat (first | refine blk_drewN ?_ _ | refine blk_drew ?_ | refine blk_alloc ?_ _)); refine blk_put (cs := #[.int .i64 0, .int .i64 0, .bool false, .bool false, .int .i64 0, .int .i64 0, .int .i64 0, .int .u32 0, .int .u32 0, .string (⟨#[]⟩ : ByteArray)]) ?_ 2 _ rfl; (with_reducible repeat (first | refine blk_drewN ?_ _ | refine blk_drew ?_ | refine blk_alloc ?_ _)); refine blk_put (cs := #[.int .i64 0, .int .i64 0, .bool false, .bool false, .int .i64 0, .int .i64 0, .int .i64 0, .int .u32 0, .int .u32 0, .string (⟨#[]⟩ : ByteArray)]) ?_ 1 _ rfl; (with_reducible repeat (first | refine blk_drewN ?_ _ | refine blk_drew ?_ | refine blk_alloc ?_ _)); refine blk_put (cs := #[.int .i64 0, .int .i64 0, .bool false, .bool false, .int .i64 0, .int .i64 0, .int .i64 0, .int .u32 0, .int .u32 0, .string (⟨#[]⟩ : ByteArray)]) ?_ 0 _ rfl; (with_reducible repeat (first | refine blk_drewN ?_ _ | refine blk_drew ?_ | refine blk_alloc ?_ _)); exact BK310.out) Tryd.underlying24 rfl (by kernel_rfl)) rfl ?_
          exact ⟨by first | rfl | (simp [errW_none, errW_some] <;> rfl) | (simp [*, errW_none, errW_some] <;> rfl) | (simp [*, IntKind.wrap_u32]; done) | (simp_all [IntKind.wrap_u32]; done), by repeat (first | (with_reducible first | exact HB.out | apply below_alloc | apply pw_below_drewN | apply below_drew1 | refine below_set ?_ GE310.out) | exact HB.out)⟩
         ·replace c17 := Bool.eq_false_iff.mpr c17
          subst c17
          have H1 : (if t312 > (a0.size : Int) then (some (0, 0, false, false, 0, 0, 0, 0, 0, (⟨#[]⟩ : ByteArray), 60)) else ((gangwayref06_num.f kj13 a0 1 2).bind fun t314 => ((gangwayref06_num.f kj13 a0 4 6).bind fun t315 => ((gangwayref06_num.f kj13 a0 8 9).bind fun t316 => ((gangwayref06_num.f kj13 a0 9 10).bind fun t317 => ((gangwayref06_num.f kj13 a0 12 16).bind fun t318 => ((gangwayref06_num.f kj13 a0 16 20).bind fun t319 => (if 20 ≤ t312 then (if t312 ≤ (a0.size : Int) then (some (t314, t315, ((wrap64 (Int.tdiv t313 16384)) == 1), ((Int.tmod (wrap64 (Int.tdiv t313 8192)) 2) == 1), Int.tmod t313 8192, t316, t317, (t318) % 4294967296, (t319) % 4294967296, a0.extract 20 (t312 : Int).toNat, 0)) else (none)) else (none))))))))) = some (r1, r2, r3, r4, r5, r6, r7, r8, r9, r10, r11) := by rw [if_neg (show ¬ (false = true) by decide)] at H; exact H
          clear H
          have H := H1
          clear H1
          by_cases c19 : t312 > (a0.size : Int)
          ·rw [if_pos c19] at H
           have c19b0 : decide ((a0.size : Int) < t312) = true := decide_eq_true c19
           clear c19
           simp only [Option.some.injEq, Prod.mk.injEq] at H
           obtain ⟨rfl, rfl, rfl, rfl, rfl, rfl, rfl, rfl, rfl, rfl, rfl⟩ := H
           have hcz20_0 : wc.cell? ⟨gb310, 0, none⟩ = some (.int .i64 0) := (blk_cell BK310.out 0).trans rfl
           have hcz20_1 : wc.cell? ⟨gb310, 1, none⟩ = some (.int .i64 0) := (blk_cell BK310.out 1).trans rfl
           have hcz20_2 : wc.cell? ⟨gb310, 2, none⟩ = some (.bool false) := (blk_cell BK310.out 2).trans rfl
           have hcz20_3 : wc.cell? ⟨gb310, 3, none⟩ = some (.bool false) := (blk_cell BK310.out 3).trans rfl
           have hcz20_4 : wc.cell? ⟨gb310, 4, none⟩ = some (.int .i64 0) := (blk_cell BK310.out 4).trans rfl
           have hcz20_5 : wc.cell? ⟨gb310, 5, none⟩ = some (.int .i64 0) := (blk_cell BK310.out 5).trans rfl
           have hcz20_6 : wc.cell? ⟨gb310, 6, none⟩ = some (.int .i64 0) := (blk_cell BK310.out 6).trans rfl
           have hcz20_7 : wc.cell? ⟨gb310, 7, none⟩ = some (.int .u32 0) := (blk_cell BK310.out 7).trans rfl
           have hcz20_8 : wc.cell? ⟨gb310, 8, none⟩ = some (.int .u32 0) := (blk_cell BK310.out 8).trans rfl
           have hcz20_9 : wc.cell? ⟨gb310, 9, none⟩ = some (.string (⟨#[]⟩ : ByteArray)) := (blk_cell BK310.out 9).trans rfl
           have hfz20_0 := blk_frozen BK310.out 0
           have hfz20_1 := blk_frozen BK310.out 1
           have hfz20_2 := blk_frozen BK310.out 2
           have hfz20_3 := blk_frozen BK310.out 3
           have hfz20_4 := blk_frozen BK310.out 4
           have hfz20_5 := blk_frozen BK310.out 5
           have hfz20_6 := blk_frozen BK310.out 6
           have hfz20_7 := blk_frozen BK310.out 7
           have hfz20_8 := blk_frozen BK310.out 8
           have hfz20_9 := blk_frozen BK310.out 9
           go_wp2
           refine bodyPost_ret (results_ct rfl _ _ gb310 24 #[.int .i64 0, .int .i64 0, .bool false, .bool false, .int .i64 0, .int .i64 0, .int .i64 0, .int .u32 0, .int .u32 0, .string (⟨#[]⟩ : ByteArray)] (0, 0) _ rfl (by (with_reducible repeat (first | refine blk_drewN ?_ _ | refine blk_drew ?_ | refine blk_alloc ?_ _)); refine blk_put (cs := #[.int .i64 0, .int .i64 0, .bool false, .bool false, .int .i64 0, .int .i64 0, .int .i64 0, .int .u32 0, .int .u32 0, .string (⟨#[]⟩ : ByteArray)]) ?_ 9 _ rfl; (with_reducible repeat (first | refine blk_drewN ?_ _ | refine blk_drew ?_ | refine blk_alloc ?_ _)); refine blk_put (cs := #[.int .i64 0, .int .i64 0, .bool false, .bool false, .int .i64 0, .int .i64 0, .int .i64 0, .int .u32 0, .int .u32 0, .string (⟨#[]⟩ : ByteArray)]) ?_ 8 _ rfl; (with_reducible repeat (first | refine blk_drewN ?_ _ | refine blk_drew ?_ | refine blk_alloc ?_ _)); refine blk_put (cs := #[.int .i64 0, .int .i64 0, .bool false, .bool false, .int .i64 0, .int .i64 0, .int .i64 0, .int .u32 0, .int .u32 0, .string (⟨#[]⟩ : ByteArray)]) ?_ 7 _ rfl; (with_reducible repeat (first | refine blk_drewN ?_ _ | refine blk_drew ?_ | refine blk_alloc ?_ _)); refine blk_put (cs := #[.int .i64 0, .int .i64 0, .bool false, .bool false, .int .i64 0, .int .i64 0, .int .i64 0, .int .u32 0, .int .u32 0, .string (⟨#[]⟩ : ByteArray)]) ?_ 6 _ rfl; (with_reducible repeat (first | refine blk_drewN ?_ _ | refine blk_drew ?_ | refine blk_alloc ?_ _)); refine blk_put (cs := #[.int .i64 0, .int .i64 0, .bool false, .bool false, .int .i64 0, .int .i64 0, .int .i64 0, .int .u32 0, .int .u32 0, .string (⟨#[]⟩ : ByteArray)]) ?_ 5 _ rfl; (with_reducible repeat (first | refine blk_drewN ?_ _ | refine blk_drew ?_ | refine blk_alloc ?_ _)); refine blk_put (cs := #[.int .i64 0, .int .i64 0, .bool false, .bool false, .int .i64 0, .int .i64 0, .int .i64 0, .int .u32 0, .int .u32 0, .string (⟨#[]⟩ : ByteArray)]) ?_ 4 _ rfl; (with_reducible repeat (first | refine blk_drewN ?_ _ | refine blk_drew ?_ | refine blk_alloc ?_ _)); refine blk_put (cs := #[.int .i64 0, .int .i64 0, .bool false, .bool false, .int .i64 0, .int .i64 0, .int .i64 0, .int .u32 0, .int .u32 0, .string (⟨#[]⟩ : ByteArray)]) ?_ 3 _ rfl; (with_reducible repeat (first | refine blk_drewN ?_ _ | refine blk_drew ?_ | refine blk_alloc ?_ _)); refine blk_put (cs := #[.int .i64 0, .int .i64 0, .bool false, .bool false, .int .i64 0, .int .i64 0, .int .i64 0, .int .u32 0, .int .u32 0, .string (⟨#[]⟩ : ByteArray)]) ?_ 2 _ rfl; (with_reducible repeat (first | refine blk_drewN ?_ _ | refine blk_drew ?_ | refine blk_alloc ?_ _)); refine blk_put (cs := #[.int .i64 0, .int .i64 0, .bool false, .bool false, .int .i64 0, .int .i64 0, .int .i64 0, .int .u32 0, .int .u32 0, .string (⟨#[]⟩ : ByteArray)]) ?_ 1 _ rfl; (with_reducible repeat (first | refine blk_drewN ?_ _ | refine blk_drew ?_ | refine blk_alloc ?_ _)); refine blk_put (cs := #[.int .i64 0, .int .i64 0, .bool false, .bool false, .int .i64 0, .int .i64 0, .int .i64 0, .int .u32 0, .int .u32 0, .string (⟨#[]⟩ : ByteArray)]) ?_ 0 _ rfl; (with_reducible repeat (first | refine blk_drewN ?_ _ | refine blk_drew ?_ | refine blk_alloc ?_ _)); exact BK310.out) Tryd.underlying24 rfl (by kernel_rfl)) rfl ?_
           exact ⟨by first | rfl | (simp [errW_none, errW_some] <;> rfl) | (simp [*, errW_none, errW_some] <;> rfl) | (simp [*, IntKind.wrap_u32]; done) | (simp_all [IntKind.wrap_u32]; done), by repeat (first | (with_reducible first | exact HB.out | apply below_alloc | apply pw_below_drewN | apply below_drew1 | refine below_set ?_ GE310.out) | exact HB.out)⟩
          ·rw [if_neg c19] at H
           have c19b0 : decide ((a0.size : Int) < t312) = false := decide_eq_false c19
           clear c19
           replace H := Option.bind_eq_some_iff.mp H
           obtain ⟨t314, A210, H⟩ := H
           replace H : ((gangwayref06_num.f kj13 a0 4 6).bind fun t315 => ((gangwayref06_num.f kj13 a0 8 9).bind fun t316 => ((gangwayref06_num.f kj13 a0 9 10).bind fun t317 => ((gangwayref06_num.f kj13 a0 12 16).bind fun t318 => ((gangwayref06_num.f kj13 a0 16 20).bind fun t319 => (if 20 ≤ t312 then (if t312 ≤ (a0.size : Int) then (some (t314, t315, ((wrap64 (Int.tdiv t313 16384)) == 1), ((Int.tmod (wrap64 (Int.tdiv t313 8192)) 2) == 1), Int.tmod t313 8192, t316, t317, (t318) % 4294967296, (t319) % 4294967296, a0.extract 20 (t312 : Int).toNat, 0)) else (none)) else (none))))))) = some (r1, r2, r3, r4, r5, r6, r7, r8, r9, r10, r11) := H
           have A21 := Aside0.mk A210
           clear A210
           replace H := Option.bind_eq_some_iff.mp H
           obtain ⟨t315, A220, H⟩ := H
           replace H : ((gangwayref06_num.f kj13 a0 8 9).bind fun t316 => ((gangwayref06_num.f kj13 a0 9 10).bind fun t317 => ((gangwayref06_num.f kj13 a0 12 16).bind fun t318 => ((gangwayref06_num.f kj13 a0 16 20).bind fun t319 => (if 20 ≤ t312 then (if t312 ≤ (a0.size : Int) then (some (t314, t315, ((wrap64 (Int.tdiv t313 16384)) == 1), ((Int.tmod (wrap64 (Int.tdiv t313 8192)) 2) == 1), Int.tmod t313 8192, t316, t317, (t318) % 4294967296, (t319) % 4294967296, a0.extract 20 (t312 : Int).toNat, 0)) else (none)) else (none)))))) = some (r1, r2, r3, r4, r5, r6, r7, r8, r9, r10, r11) := H
           have A22 := Aside0.mk A220
           clear A220
           replace H := Option.bind_eq_some_iff.mp H
           obtain ⟨t316, A230, H⟩ := H
           replace H : ((gangwayref06_num.f kj13 a0 9 10).bind fun t317 => ((gangwayref06_num.f kj13 a0 12 16).bind fun t318 => ((gangwayref06_num.f kj13 a0 16 20).bind fun t319 => (if 20 ≤ t312 then (if t312 ≤ (a0.size : Int) then (some (t314, t315, ((wrap64 (Int.tdiv t313 16384)) == 1), ((Int.tmod (wrap64 (Int.tdiv t313 8192)) 2) == 1), Int.tmod t313 8192, t316, t317, (t318) % 4294967296, (t319) % 4294967296, a0.extract 20 (t312 : Int).toNat, 0)) else (none)) else (none))))) = some (r1, r2, r3, r4, r5, r6, r7, r8, r9, r10, r11) := H
           have A23 := Aside0.mk A230
           clear A230
           replace H := Option.bind_eq_some_iff.mp H
           obtain ⟨t317, A240, H⟩ := H
           replace H : ((gangwayref06_num.f kj13 a0 12 16).bind fun t318 => ((gangwayref06_num.f kj13 a0 16 20).bind fun t319 => (if 20 ≤ t312 then (if t312 ≤ (a0.size : Int) then (some (t314, t315, ((wrap64 (Int.tdiv t313 16384)) == 1), ((Int.tmod (wrap64 (Int.tdiv t313 8192)) 2) == 1), Int.tmod t313 8192, t316, t317, (t318) % 4294967296, (t319) % 4294967296, a0.extract 20 (t312 : Int).toNat, 0)) else (none)) else (none)))) = some (r1, r2, r3, r4, r5, r6, r7, r8, r9, r10, r11) := H
           have A24 := Aside0.mk A240
           clear A240
           replace H := Option.bind_eq_some_iff.mp H
           obtain ⟨t318, A250, H⟩ := H
           replace H : ((gangwayref06_num.f kj13 a0 16 20).bind fun t319 => (if 20 ≤ t312 then (if t312 ≤ (a0.size : Int) then (some (t314, t315, ((wrap64 (Int.tdiv t313 16384)) == 1), ((Int.tmod (wrap64 (Int.tdiv t313 8192)) 2) == 1), Int.tmod t313 8192, t316, t317, (t318) % 4294967296, (t319) % 4294967296, a0.extract 20 (t312 : Int).toNat, 0)) else (none)) else (none))) = some (r1, r2, r3, r4, r5, r6, r7, r8, r9, r10, r11) := H
           have A25 := Aside0.mk A250
           clear A250
           replace H := Option.bind_eq_some_iff.mp H
           obtain ⟨t319, A260, H⟩ := H
           replace H : (if 20 ≤ t312 then (if t312 ≤ (a0.size : Int) then (some (t314, t315, ((wrap64 (Int.tdiv t313 16384)) == 1), ((Int.tmod (wrap64 (Int.tdiv t313 8192)) 2) == 1), Int.tmod t313 8192, t316, t317, (t318) % 4294967296, (t319) % 4294967296, a0.extract 20 (t312 : Int).toNat, 0)) else (none)) else (none)) = some (r1, r2, r3, r4, r5, r6, r7, r8, r9, r10, r11) := H
           have A26 := Aside0.mk A260
           clear A260
           by_cases c27 : 20 ≤ t312
           ·rw [if_pos c27] at H
            have c27b0 := eq_true c27
            have c27b1 : decide (20 ≤ t312) = true := decide_eq_true c27
            clear c27
            by_cases c28 : t312 ≤ (a0.size : Int)
            ·rw [if_pos c28] at H
             have c28b0 := eq_true c28
             have c28b1 : decide (t312 ≤ (a0.size : Int)) = true := decide_eq_true c28
             clear c28
             simp only [Option.some.injEq, Prod.mk.injEq] at H
             obtain ⟨rfl, rfl, rfl, rfl, rfl, rfl, rfl, rfl, rfl, rfl, rfl⟩ := H
             try go_wp2
             have n0_ := Aside0.mk (blk_drew BK310.out)
             have n1_ := Aside0.mk (below_drew1 HB.out)
             clear BK310
             clear HB
             have BK310 := n0_
             have HB := n1_
             clear n0_ n1_
             refine start_ (n := 29) (S := fun w' => True) (ds := []) #[false, false, false, false, false, false, false, false, false, false, false, false, false, false, false, false, false, false, false, false, false, false, false, false, false, false, false, false, false] (by kernel_rfl) rfl rfl trivial (fun hHeld => ?_); refine with_tabW gangwayref06_Parse.tab12 gangwayref06_Parse.bits12 (fun HT_ HW_ => ?_)
             generalize wc.drew = w29 at BK310 HB hHeld ⊢
             refine pure_ (i := 0) (N := some 35) (v := ?_) (a' := ?_) #[true, false, false, false, false, false, false, false, false, false, false, false, false, false, false, false, false, false, false, false, false, false, false, false, false, false, false, false, false] rfl rfl (any_of HT_.out (by kernel_rfl)) (fun _ _ _ h => h) (Or.inl ⟨by rfl, ?_⟩) ?_ ?_
             rotate_left
             ·intro w'
              go_simp
              with_reducible rfl
             rotate_left
             ·simp only [Act.put, List.setIfInBounds_toArray, List.set_cons_zero, List.set_cons_succ, i64_w, i32_w]
              rfl
             refine pure_ (i := 2) (N := some 37) (v := ?_) (a' := ?_) #[true, false, true, false, false, false, false, false, false, false, false, false, false, false, false, false, false, false, false, false, false, false, false, false, false, false, false, false, false] rfl rfl (any_of HT_.out (by kernel_rfl)) (fun _ _ _ h => h) (Or.inl ⟨by rfl, ?_⟩) ?_ ?_
             rotate_left
             ·intro w'
              go_simp
              with_reducible rfl
             rotate_left
             ·simp only [Act.put, List.setIfInBounds_toArray, List.set_cons_zero, List.set_cons_succ, i64_w, i32_w]
              rfl
             refine pure_ (i := 4) (N := some 39) (v := ?_) (a' := ?_) #[true, false, true, false, true, false, false, false, false, false, false, false, false, false, false, false, false, false, false, false, false, false, false, false, false, false, false, false, false] rfl rfl (any_of HT_.out (by kernel_rfl)) (fun _ _ _ h => h) (Or.inl ⟨by rfl, ?_⟩) ?_ ?_
             rotate_left
             ·intro w'
              go_simp
              with_reducible rfl
             rotate_left
             ·simp only [Act.put, List.setIfInBounds_toArray, List.set_cons_zero, List.set_cons_succ, i64_w, i32_w]
              rfl
             refine pure_ (i := 5) (N := some 40) (v := ?_) (a' := ?_) #[true, false, true, false, true, true, false, false, false, false, false, false, false, false, false, false, false, false, false, false, false, false, false, false, false, false, false, false, false] rfl rfl (any_of HT_.out (by kernel_rfl)) (fun _ _ _ h => h) (Or.inl ⟨by rfl, ?_⟩) ?_ ?_
             rotate_left
             ·intro w'
              go_simp
              with_reducible rfl
             rotate_left
             ·simp only [Act.put, List.setIfInBounds_toArray, List.set_cons_zero, List.set_cons_succ, i64_w, i32_w]
              rfl
             refine pure_ (i := 6) (N := some 41) (v := ?_) (a' := ?_) #[true, false, true, false, true, true, true, false, false, false, false, false, false, false, false, false, false, false, false, false, false, false, false, false, false, false, false, false, false] rfl rfl (any_of HT_.out (by kernel_rfl)) (fun _ _ _ h => h) (Or.inl ⟨by rfl, ?_⟩) ?_ ?_
             rotate_left
             ·intro w'
              go_simp
              with_reducible rfl
             rotate_left
             ·simp only [Act.put, List.setIfInBounds_toArray, List.set_cons_zero, List.set_cons_succ, i64_w, i32_w]
              rfl
             refine pure_ (i := 7) (N := some 42) (v := ?_) (a' := ?_) #[true, false, true, false, true, true, true, true, false, false, false, false, false, false, false, false, false, false, false, false, false, false, false, false, false, false, false, false, false] rfl rfl (any_of HT_.out (by kernel_rfl)) (fun _ _ _ h => h) (Or.inl ⟨by rfl, ?_⟩) ?_ ?_
             rotate_left
             ·intro w'
              go_simp
              with_reducible rfl
             rotate_left
             ·simp only [Act.put, List.setIfInBounds_toArray, List.set_cons_zero, List.set_cons_succ, i64_w, i32_w]
              rfl
             refine pure_ (i := 8) (N := some 43) (v := ?_) (a' := ?_) #[true, false, true, false, true, true, true, true, true, false, false, false, false, false, false, false, false, false, false, false, false, false, false, false, false, false, false, false, false] rfl rfl (any_of HT_.out (by kernel_rfl)) (fun _ _ _ h => h) (Or.inl ⟨by rfl, ?_⟩) ?_ ?_
             rotate_left
             ·intro w'
              go_simp
              with_reducible rfl
             rotate_left
             ·simp only [Act.put, List.setIfInBounds_toArray, List.set_cons_zero, List.set_cons_succ, i64_w, i32_w]
              rfl
             refine pure_ (i := 9) (N := some 44) (v := ?_) (a' := ?_) #[true, false, true, false, true, true, true, true, true, true, false, false, false, false, false, false, false, false, false, false, false, false, false, false, false, false, false, false, false] rfl rfl (any_of HT_.out (by kernel_rfl)) (fun _ _ _ h => h) (Or.inl ⟨by rfl, ?_⟩) ?_ ?_
             rotate_left
             ·intro w'
              go_simp
              with_reducible rfl
             rotate_left
             ·simp only [Act.put, List.setIfInBounds_toArray, List.set_cons_zero, List.set_cons_succ, i64_w, i32_w]
              rfl
             refine pure_ (i := 10) (N := some 45) (v := ?_) (a' := ?_) #[true, false, true, false, true, true, true, true, true, true, true, false, false, false, false, false, false, false, false, false, false, false, false, false, false, false, false, false, false] rfl rfl (any_of HT_.out (by kernel_rfl)) (fun _ _ _ h => h) (Or.inl ⟨by rfl, ?_⟩) ?_ ?_
             rotate_left
             ·intro w'
              go_simp
              with_reducible rfl
             rotate_left
             ·simp only [Act.put, List.setIfInBounds_toArray, List.set_cons_zero, List.set_cons_succ, i64_w, i32_w]
              rfl
             refine pure_ (i := 11) (N := some 46) (v := ?_) (a' := ?_) #[true, false, true, false, true, true, true, true, true, true, true, true, false, false, false, false, false, false, false, false, false, false, false, false, false, false, false, false, false] rfl rfl (any_of HT_.out (by kernel_rfl)) (fun _ _ _ h => h) (Or.inl ⟨by rfl, ?_⟩) ?_ ?_
             rotate_left
             ·intro w'
              go_simp
              with_reducible rfl
             rotate_left
             ·simp only [Act.put, List.setIfInBounds_toArray, List.set_cons_zero, List.set_cons_succ, i64_w, i32_w]
              rfl
             refine pure_ (i := 12) (N := some 47) (v := ?_) (a' := ?_) #[true, false, true, false, true, true, true, true, true, true, true, true, true, false, false, false, false, false, false, false, false, false, false, false, false, false, false, false, false] rfl rfl (any_of HT_.out (by kernel_rfl)) (fun _ _ _ h => h) (Or.inl ⟨by rfl, ?_⟩) ?_ ?_
             rotate_left
             ·intro w'
              go_simp
              with_reducible rfl
             rotate_left
             ·simp only [Act.put, List.setIfInBounds_toArray, List.set_cons_zero, List.set_cons_succ, i64_w, i32_w]
              rfl
             refine pure_ (i := 13) (N := some 48) (v := ?_) (a' := ?_) #[true, false, true, false, true, true, true, true, true, true, true, true, true, true, false, false, false, false, false, false, false, false, false, false, false, false, false, false, false] rfl rfl (any_of HT_.out (by kernel_rfl)) (fun _ _ _ h => h) (Or.inl ⟨by rfl, ?_⟩) ?_ ?_
             rotate_left
             ·intro w'
              go_simp
              with_reducible rfl
             rotate_left
             ·simp only [Act.put, List.setIfInBounds_toArray, List.set_cons_zero, List.set_cons_succ, i64_w, i32_w]
              rfl
             refine pure_ (i := 15) (N := some 50) (v := ?_) (a' := ?_) #[true, false, true, false, true, true, true, true, true, true, true, true, true, true, false, true, false, false, false, false, false, false, false, false, false, false, false, false, false] rfl rfl (any_of HT_.out (by kernel_rfl)) (fun _ _ _ h => h) (Or.inl ⟨by rfl, ?_⟩) ?_ ?_
             rotate_left
             ·intro w'
              go_simp
              with_reducible rfl
             rotate_left
             ·simp only [Act.put, List.setIfInBounds_toArray, List.set_cons_zero, List.set_cons_succ, i64_w, i32_w]
              rfl
             refine pure_ (i := 17) (N := some 52) (v := ?_) (a' := ?_) #[true, false, true, false, true, true, true, true, true, true, true, true, true, true, false, true, false, true, false, false, false, false, false, false, false, false, false, false, false] rfl rfl (any_of HT_.out (by kernel_rfl)) (fun _ _ _ h => h) (Or.inl ⟨by rfl, ?_⟩) ?_ ?_
             rotate_left
             ·intro w'
              go_simp
              with_reducible rfl
             rotate_left
             ·simp only [Act.put, List.setIfInBounds_toArray, List.set_cons_zero, List.set_cons_succ, i64_w, i32_w]
              rfl
             refine pure_ (i := 20) (N := some 55) (v := ?_) (a' := ?_) #[true, false, true, false, true, true, true, true, true, true, true, true, true, true, false, true, false, true, false, false, true, false, false, false, false, false, false, false, false] rfl rfl (any_of HT_.out (by kernel_rfl)) (fun _ _ _ h => h) (Or.inl ⟨by rfl, ?_⟩) ?_ ?_
             rotate_left
             ·intro w'
              go_simp
              with_reducible rfl
             rotate_left
             ·simp only [Act.put, List.setIfInBounds_toArray, List.set_cons_zero, List.set_cons_succ, i64_w, i32_w]
              rfl
             refine pure_ (i := 23) (N := some 58) (v := ?_) (a' := ?_) #[true, false, true, false, true, true, true, true, true, true, true, true, true, true, false, true, false, true, false, false, true, false, false, true, false, false, false, false, false] rfl rfl (any_of HT_.out (by kernel_rfl)) (fun _ _ _ h => h) (Or.inl ⟨by rfl, ?_⟩) ?_ ?_
             rotate_left
             ·intro w'
              go_simp
              with_reducible rfl
             rotate_left
             ·simp only [Act.put, List.setIfInBounds_toArray, List.set_cons_zero, List.set_cons_succ, i64_w, i32_w]
              rfl
             refine pure_ (i := 24) (N := some 59) (v := ?_) (a' := ?_) #[true, false, true, false, true, true, true, true, true, true, true, true, true, true, false, true, false, true, false, false, true, false, false, true, true, false, false, false, false] rfl rfl (any_of HT_.out (by kernel_rfl)) (fun _ _ _ h => h) (Or.inl ⟨by rfl, ?_⟩) ?_ ?_
             rotate_left
             ·intro w'
              go_simp
              with_reducible rfl
             rotate_left
             ·simp only [Act.put, List.setIfInBounds_toArray, List.set_cons_zero, List.set_cons_succ, i64_w, i32_w]
              rfl
             refine pure_ (i := 25) (N := some 60) (v := ?_) (a' := ?_) #[true, false, true, false, true, true, true, true, true, true, true, true, true, true, false, true, false, true, false, false, true, false, false, true, true, true, false, false, false] rfl rfl (any_of HT_.out (by kernel_rfl)) (fun _ _ _ h => h) (Or.inl ⟨by rfl, ?_⟩) ?_ ?_
             rotate_left
             ·intro w'
              go_simp
              with_reducible rfl
             rotate_left
             ·simp only [Act.put, List.setIfInBounds_toArray, List.set_cons_zero, List.set_cons_succ, i64_w, i32_w]
              rfl
             refine one_ (i := 1) (N := some 36) #[true, true, true, false, true, true, true, true, true, true, true, true, true, true, false, true, false, true, false, false, true, false, false, true, true, true, false, false, false] rfl rfl (one_of HT_.out (by kernel_rfl)) (by decide) (fun K hK => ?_)
             refine goes_ Tryd.func30 (by kernel_rfl) rfl #[.string a0, .int .i64 1, .int .i64 2] (by first | rfl | exact wanted_on rfl rfl rfl (by first | rfl | (simp [*]; done) | (simp [*, IntKind.wrap_u32]; done))) rfl rfl (by (try simp only [List.map_toArray, List.map_cons, List.map_nil]); first | done | rfl | (simp only [List.length_drop, List.length_take]; rfl)) ?_
             with_reducible refine (gangwayref06_num.calls kj13 a0 1 2 t314 _ A21.out).mono ?_
             rintro e w' ⟨rfl, ⟨nd, rfl⟩⟩
             refine ⟨_, rfl, ?_⟩
             refine hK.out _ _ trivial (fun hHeld => ?_)
             clear hK K
             refine norm_ (a' := ?_) ?_ ?_
             rotate_left
             ·show Act.put _ (some 36) _ = _
              simp only [Act.put, List.setIfInBounds_toArray, List.set_cons_zero, List.set_cons_succ, i64_w, i32_w]
              rfl
             refine one_ (i := 3) (N := some 38) #[true, true, true, true, true, true, true, true, true, true, true, true, true, true, false, true, false, true, false, false, true, false, false, true, true, true, false, false, false] rfl rfl (one_of HT_.out (by kernel_rfl)) (by decide) (fun K hK => ?_)
             refine goes_ Tryd.func30 (by kernel_rfl) rfl #[.string a0, .int .i64 4, .int .i64 6] (by first | rfl | exact wanted_on rfl rfl rfl (by first | rfl | (simp [*]; done) | (simp [*, IntKind.wrap_u32]; done))) rfl rfl (by (try simp only [List.map_toArray, List.map_cons, List.map_nil]); first | done | rfl | (simp only [List.length_drop, List.length_take]; rfl)) ?_
             with_reducible refine (gangwayref06_num.calls kj13 a0 4 6 t315 _ A22.out).mono ?_
             rintro e w' ⟨rfl, ⟨nd, rfl⟩⟩
             refine ⟨_, rfl, ?_⟩
             refine hK.out _ _ trivial (fun hHeld => ?_)
             clear hK K
             refine norm_ (a' := ?_) ?_ ?_
             rotate_left
             ·show Act.put _ (some 38) _ = _
              simp only [Act.put, List.setIfInBounds_toArray, List.set_cons_zero, List.set_cons_succ, i64_w, i32_w]
              rfl
             refine one_ (i := 14) (N := some 49) #[true, true, true, true, true, true, true, true, true, true, true, true, true, true, true, true, false, true, false, false, true, false, false, true, true, true, false, false, false] rfl rfl (one_of HT_.out (by kernel_rfl)) (by decide) (fun K hK => ?_)
             refine goes_ Tryd.func30 (by kernel_rfl) rfl #[.string a0, .int .i64 8, .int .i64 9] (by first | rfl | exact wanted_on rfl rfl rfl (by first | rfl | (simp [*]; done) | (simp [*, IntKind.wrap_u32]; done))) rfl rfl (by (try simp only [List.map_toArray, List.map_cons, List.map_nil]); first | done | rfl | (simp only [List.length_drop, List.length_take]; rfl)) ?_
             with_reducible refine (gangwayref06_num.calls kj13 a0 8 9 t316 _ A23.out).mono ?_
             rintro e w' ⟨rfl, ⟨nd, rfl⟩⟩
             refine ⟨_, rfl, ?_⟩
             refine hK.out _ _ trivial (fun hHeld => ?_)
             clear hK K
             refine norm_ (a' := ?_) ?_ ?_
             rotate_left
             ·show Act.put _ (some 49) _ = _
              simp only [Act.put, List.setIfInBounds_toArray, List.set_cons_zero, List.set_cons_succ, i64_w, i32_w]
              rfl
             refine one_ (i := 16) (N := some 51) #[true, true, true, true, true, true, true, true, true, true, true, true, true, true, true, true, true, true, false, false, true, false, false, true, true, true, false, false, false] rfl rfl (one_of HT_.out (by kernel_rfl)) (by decide) (fun K hK => ?_)
             refine goes_ Tryd.func30 (by kernel_rfl) rfl #[.string a0, .int .i64 9, .int .i64 10] (by first | rfl | exact wanted_on rfl rfl rfl (by first | rfl | (simp [*]; done) | (simp [*, IntKind.wrap_u32]; done))) rfl rfl (by (try simp only [List.map_toArray, List.map_cons, List.map_nil]); first | done | rfl | (simp only [List.length_drop, List.length_take]; rfl)) ?_
             with_reducible refine (gangwayref06_num.calls kj13 a0 9 10 t317 _ A24.out).mono ?_
             rintro e w' ⟨rfl, ⟨nd, rfl⟩⟩
             refine ⟨_, rfl, ?_⟩
             refine hK.out _ _ trivial (fun hHeld => ?_)
             clear hK K
             refine norm_ (a' := ?_) ?_ ?_
             rotate_left
             ·show Act.put _ (some 51) _ = _
              simp only [Act.put, List.setIfInBounds_toArray, List.set_cons_zero, List.set_cons_succ, i64_w, i32_w]
              rfl
             refine one_ (i := 18) (N := some 53) #[true, true, true, true, true, true, true, true, true, true, true, true, true, true, true, true, true, true, true, false, true, false, false, true, true, true, false, false, false] rfl rfl (one_of HT_.out (by kernel_rfl)) (by decide) (fun K hK => ?_)
             refine goes_ Tryd.func30 (by kernel_rfl) rfl #[.string a0, .int .i64 12, .int .i64 16] (by first | rfl | exact wanted_on rfl rfl rfl (by first | rfl | (simp [*]; done) | (simp [*, IntKind.wrap_u32]; done))) rfl rfl (by (try simp only [List.map_toArray, List.map_cons, List.map_nil]); first | done | rfl | (simp only [List.length_drop, List.length_take]; rfl)) ?_
             with_reducible refine (gangwayref06_num.calls kj13 a0 12 16 t318 _ A25.out).mono ?_
             rintro e w' ⟨rfl, ⟨nd, rfl⟩⟩
             refine ⟨_, rfl, ?_⟩
             refine hK.out _ _ trivial (fun hHeld => ?_)
             clear hK K
             refine norm_ (a' := ?_) ?_ ?_
             rotate_left
             ·show Act.put _ (some 53) _ = _
              simp only [Act.put, List.setIfInBounds_toArray, List.set_cons_zero, List.set_cons_succ, i64_w, i32_w]
              rfl
             refine pure_ (i := 19) (N := some 54) (v := ?_) (a' := ?_) #[true, true, true, true, true, true, true, true, true, true, true, true, true, true, true, true, true, true, true, true, true, false, false, true, true, true, false, false, false] rfl rfl (any_of HT_.out (by kernel_rfl)) (fun _ _ _ h => h) (Or.inl ⟨by rfl, ?_⟩) ?_ ?_
             rotate_left
             ·intro w'
              go_simp
              with_reducible rfl
             rotate_left
             ·simp only [Act.put, List.setIfInBounds_toArray, List.set_cons_zero, List.set_cons_succ, i64_w, i32_w]
              rfl
             refine one_ (i := 21) (N := some 56) #[true, true, true, true, true, true, true, true, true, true, true, true, true, true, true, true, true, true, true, true, true, true, false, true, true, true, false, false, false] rfl rfl (one_of HT_.out (by kernel_rfl)) (by decide) (fun K hK => ?_)
             refine goes_ Tryd.func30 (by kernel_rfl) rfl #[.string a0, .int .i64 16, .int .i64 20] (by first | rfl | exact wanted_on rfl rfl rfl (by first | rfl | (simp [*]; done) | (simp [*, IntKind.wrap_u32]; done))) rfl rfl (by (try simp only [List.map_toArray, List.map_cons, List.map_nil]); first | done | rfl | (simp only [List.length_drop, List.length_take]; rfl)) ?_
             with_reducible refine (gangwayref06_num.calls kj13 a0 16 20 t319 _ A26.out).mono ?_
             rintro e w' ⟨rfl, ⟨nd, rfl⟩⟩
             refine ⟨_, rfl, ?_⟩
             refine hK.out _ _ trivial (fun hHeld => ?_)
             clear hK K
             refine norm_ (a' := ?_) ?_ ?_
             rotate_left
             ·show Act.put _ (some 56) _ = _
              simp only [Act.put, List.setIfInBounds_toArray, List.set_cons_zero, List.set_cons_succ, i64_w, i32_w]
              rfl
             refine pure_ (i := 22) (N := some 57) (v := ?_) (a' := ?_) #[true, true, true, true, true, true, true, true, true, true, true, true, true, true, true, true, true, true, true, true, true, true, true, true, true, true, false, false, false] rfl rfl (any_of HT_.out (by kernel_rfl)) (fun _ _ _ h => h) (Or.inl ⟨by rfl, ?_⟩) ?_ ?_
             rotate_left
             ·intro w'
              go_simp
              with_reducible rfl
             rotate_left
             ·simp only [Act.put, List.setIfInBounds_toArray, List.set_cons_zero, List.set_cons_succ, i64_w, i32_w]
              rfl
             refine pure_ (i := 26) (N := some 61) (v := ?_) (a' := ?_) #[true, true, true, true, true, true, true, true, true, true, true, true, true, true, true, true, true, true, true, true, true, true, true, true, true, true, true, false, false] rfl rfl (any_of HT_.out (by kernel_rfl)) (fun _ _ _ h => h) (Or.inl ⟨by rfl, ?_⟩) ?_ ?_
             rotate_left
             ·intro w'
              go_simp
              with_reducible rfl
             rotate_left
             ·simp only [Act.put, List.setIfInBounds_toArray, List.set_cons_zero, List.set_cons_succ, i64_w, i32_w]
              rfl
             refine one_ (i := 27) (N := none) #[true, true, true, true, true, true, true, true, true, true, true, true, true, true, true, true, true, true, true, true, true, true, true, true, true, true, true, true, false] rfl rfl (one_of HT_.out (by kernel_rfl)) (by decide) (fun K hK => ?_)
             have hs30 : w29.cell? ⟨gb310, 0, none⟩ = some (.int .i64 0) := (blk_cell BK310.out 0).trans rfl
             have hfs30 := blk_frozen BK310.out 0
             have hs31 : w29.cell? ⟨gb310, 1, none⟩ = some (.int .i64 0) := (blk_cell BK310.out 1).trans rfl
             have hfs31 := blk_frozen BK310.out 1
             have hs32 : w29.cell? ⟨gb310, 2, none⟩ = some (.bool false) := (blk_cell BK310.out 2).trans rfl
             have hfs32 := blk_frozen BK310.out 2
             have hs33 : w29.cell? ⟨gb310, 3, none⟩ = some (.bool false) := (blk_cell BK310.out 3).trans rfl
             have hfs33 := blk_frozen BK310.out 3
             have hs34 : w29.cell? ⟨gb310, 4, none⟩ = some (.int .i64 0) := (blk_cell BK310.out 4).trans rfl
             have hfs34 := blk_frozen BK310.out 4
             have hs35 : w29.cell? ⟨gb310, 5, none⟩ = some (.int .i64 0) := (blk_cell BK310.out 5).trans rfl
             have hfs35 := blk_frozen BK310.out 5
             have hs36 : w29.cell? ⟨gb310, 6, none⟩ = some (.int .i64 0) := (blk_cell BK310.out 6).trans rfl
             have hfs36 := blk_frozen BK310.out 6
             have hs37 : w29.cell? ⟨gb310, 7, none⟩ = some (.int .u32 0) := (blk_cell BK310.out 7).trans rfl
             have hfs37 := blk_frozen BK310.out 7
             have hs38 : w29.cell? ⟨gb310, 8, none⟩ = some (.int .u32 0) := (blk_cell BK310.out 8).trans rfl
             have hfs38 := blk_frozen BK310.out 8
             have hs39 : w29.cell? ⟨gb310, 9, none⟩ = some (.string (⟨#[]⟩ : ByteArray)) := (blk_cell BK310.out 9).trans rfl
             have hfs39 := blk_frozen BK310.out 9
             refine skip_ (w1 := ?_) (by rfl) rfl ?_ ?_
             rotate_left
             ·go_simp
              rfl
             refine hK.out _ _ trivial (fun hHeld => ?_)
             clear hK K
             refine pure_ (i := 28) (N := some 3) (v := ?_) (a' := ?_) #[true, true, true, true, true, true, true, true, true, true, true, true, true, true, true, true, true, true, true, true, true, true, true, true, true, true, true, true, true] rfl rfl (any_of HT_.out (by kernel_rfl)) (fun _ _ _ h => h) (Or.inl ⟨by rfl, ?_⟩) ?_ ?_
             rotate_left
             ·intro w'
              go_simp
              with_reducible rfl
             rotate_left
             ·simp only [Act.put, List.setIfInBounds_toArray, List.set_cons_zero, List.set_cons_succ, i64_w, i32_w]
              rfl
             refine done_ (done_of HT_.out (by kernel_rfl)) ?_
             try go_wp2
             refine bodyPost_ret (results_ct rfl _ _ gb310 24 #[.int .i64 t314, .int .i64 t315, .bool ((wrap64 (Int.tdiv t313 16384)) == 1), .bool ((Int.tmod (wrap64 (Int.tdiv t313 8192)) 2) == 1), .int .i64 (Int.tmod t313 8192), .int .i64 t316, .int .i64 t317, .int .u32 ((t318) % 4294967296), .int .u32 ((t319) % 4294967296), .string (a0.extract 20 (t312 : Int).toNat)] (0, 0) _ rfl (by (with_reducible repeat (first | refine blk_drewN ?_ _ | refine blk_drew ?_ | refine blk_alloc ?_ _)); refine blk_put (cs := #[.int .i64 t314, .int .i64 t315, .bool ((wrap64 (Int.tdiv t313 16384)) == 1), .bool ((Int.tmod (wrap64 (Int.tdiv t313 8192)) 2) == 1), .int .i64 (Int.tmod t313 8192), .int .i64 t316, .int .i64 t317, .int .u32 ((t318) % 4294967296), .int .u32 ((t319) % 4294967296), .string (⟨#[]⟩ : ByteArray)]) ?_ 9 _ rfl; (with_reducible repeat (first | refine blk_drewN ?_ _ | refine blk_drew ?_ | refine blk_alloc ?_ _)); refine blk_put (cs := #[.int .i64 t314, .int .i64 t315, .bool ((wrap64 (Int.tdiv t313 16384)) == 1), .bool ((Int.tmod (wrap64 (Int.tdiv t313 8192)) 2) == 1), .int .i64 (Int.tmod t313 8192), .int .i64 t316, .int .i64 t317, .int .u32 ((t318) % 4294967296), .int .u32 0, .string (⟨#[]⟩ : ByteArray)]) ?_ 8 _ rfl; (with_reducible repeat (first | refine blk_drewN ?_ _ | refine blk_drew ?_ | refine blk_alloc ?_ _)); refine blk_put (cs := #[.int .i64 t314, .int .i64 t315, .bool ((wrap64 (Int.tdiv t313 16384)) == 1), .bool ((Int.tmod (wrap64 (Int.tdiv t313 8192)) 2) == 1), .int .i64 (Int.tmod t313 8192), .int .i64 t316, .int .i64 t317, .int .u32 0, .int .u32 0, .string (⟨#[]⟩ : ByteArray)]) ?_ 7 _ rfl; (with_reducible repeat (first | refine blk_drewN ?_ _ | refine blk_drew ?_ | refine blk_alloc ?_ _)); refine blk_put (cs := #[.int .i64 t314, .int .i64 t315, .bool ((wrap64 (Int.tdiv t313 16384)) == 1), .bool ((Int.tmod (wrap64 (Int.tdiv t313 8192)) 2) == 1), .int .i64 (Int.tmod t313 8192), .int .i64 t316, .int .i64 0, .int .u32 0, .int .u32 0, .string (⟨#[]⟩ : ByteArray)]) ?_ 6 _ rfl; (with_reducible repeat (first | refine blk_drewN ?_ _ | refine blk_drew ?_ | refine blk_alloc ?_ _)); refine blk_put (cs := #[.int .i64 t314, .int .i64 t315, .bool ((wrap64 (Int.tdiv t313 16384)) == 1), .bool ((Int.tmod (wrap64 (Int.tdiv t313 8192)) 2) == 1), .int .i64 (Int.tmod t313 8192), .int .i64 0, .int .i64 0, .int .u32 0, .int .u32 0, .string (⟨#[]⟩ : ByteArray)]) ?_ 5 _ rfl; (with_reducible repeat (first | refine blk_drewN ?_ _ | refine blk_drew ?_ | refine blk_alloc ?_ _)); refine blk_put (cs := #[.int .i64 t314, .int .i64 t315, .bool ((wrap64 (Int.tdiv t313 16384)) == 1), .bool ((Int.tmod (wrap64 (Int.tdiv t313 8192)) 2) == 1), .int .i64 0, .int .i64 0, .int .i64 0, .int .u32 0, .int .u32 0, .string (⟨#[]⟩ : ByteArray)]) ?_ 4 _ rfl; (with_reducible repeat (first | refine blk_drewN ?_ _ | refine blk_drew ?_ | refine blk_alloc ?_ _)); refine blk_put (cs := #[.int .i64 t314, .int .i64 t315, .bool ((wrap64 (Int.tdiv t313 16384)) == 1), .bool false, .int .i64 0, .int .i64 0, .int .i64 0, .int .u32 0, .int .u32 0, .string (⟨#[]⟩ : ByteArray)]) ?_ 3 _ rfl; (with_reducible repeat (first | refine blk_drewN ?_ _ | refine blk_drew ?_ | refine blk_alloc ?_ _)); refine blk_put (cs := #[.int .i64 t314, .int .i64 t315, .bool false, .bool false, .int .i64 0, .int .i64 0, .int .i64 0, .int .u32 0, .int .u32 0, .string (⟨#[]⟩ : ByteArray)]) ?_ 2 _ rfl; (with_reducible repeat (first | refine blk_drewN ?_ _ | refine blk_drew ?_ | refine blk_alloc ?_ _)); refine blk_put (cs := #[.int .i64 t314, .int .i64 0, .bool false, .bool false, .int .i64 0, .int .i64 0, .int .i64 0, .int .u32 0, .int .u32 0, .string (⟨#[]⟩ : ByteArray)]) ?_ 1 _ rfl; (with_reducible repeat (first | refine blk_drewN ?_ _ | refine blk_drew ?_ | refine blk_alloc ?_ _)); refine blk_put (cs := #[.int .i64 0, .int .i64 0, .bool false, .bool false, .int .i64 0, .int .i64 0, .int .i64 0, .int .u32 0, .int .u32 0, .string (⟨#[]⟩ : ByteArray)]) ?_ 0 _ rfl; (with_reducible repeat (first | refine blk_drewN ?_ _ | refine blk_drew ?_ | refine blk_alloc ?_ _)); exact BK310.out) Tryd.underlying24 rfl (by kernel_rfl)) rfl ?_
             exact ⟨by first | rfl | (simp [errW_none, errW_some] <;> rfl) | (simp [*, errW_none, errW_some] <;> rfl) | (simp [*, IntKind.wrap_u32]; done) | (simp_all [IntKind.wrap_u32]; done), by repeat (first | (with_reducible first | exact HB.out | apply below_alloc | apply pw_below_drewN | apply below_drew1 | refine below_set ?_ GE310.out) | exact HB.out)⟩
            ·rw [if_neg c28] at H
             exact absurd H (by simp)
           ·rw [if_neg c27] at H
            exact absurd H (by simp)
      ·rw [if_neg c11] at H
       have c11b0 : (t311 == 0) = false := beq_eq_false_iff_ne.mpr c11
       have c11b1 : (t311 != 0) = true := bne_iff_ne.mpr c11
       simp only [Option.some.injEq, Prod.mk.injEq] at H
       obtain ⟨rfl, rfl, rfl, rfl, rfl, rfl, rfl, rfl, rfl, rfl, rfl⟩ := H
       go_enter Tryd.func17, Tryd.ntmps17
       go_wp2_with (first | ((with_reducible refine gate_dst (N := 2) rfl ?_); refine box_event ?hg (N := 2) ?hd (cs := #[.int .i64 0, .int .i64 0, .bool false, .bool false, .int .i64 0, .int .i64 0, .int .i64 0, .int .u32 0, .int .u32 0, .string (⟨#[]⟩ : ByteArray)]) (t := 24) ?hr ?_; (case hd => rfl); (case hg => rfl); (case hr => first | (go_simp; done) | (go_simp; rfl)); intro gb310 hg w40 hbox hb; have n0_ := Aside0.mk (below_step (by repeat (first | (with_reducible first | exact HB.out | apply below_alloc | apply pw_below_drewN | apply below_drew1) | exact HB.out)) hb); have n1_ := Aside0.mk (hbox); have n2_ := Aside0.mk ((by rw [hg]; exact (below_size (by repeat (first | (with_reducible first | exact HB.out | apply below_alloc | apply pw_below_drewN | apply below_drew1) | exact HB.out))) : w.heap.size ≤ gb310)); have n3_ := Aside0.mk ((by rw [hg]; exact (below_size (by repeat (first | (with_reducible first | exact HB.out | apply below_alloc | apply pw_below_drewN | apply below_drew1) | exact HB.out))) : w.heap.size ≤ gb310)); clear HB; have HB := n0_; have BK310 := n1_; have GW310 := n2_; have GE310 := n3_; clear n0_ n1_ n2_ n3_; clear hb hbox hg; have p6 : 0 ≤ (0 : Int) := (by omega); have q6 : 0 < a0.size := (by have : (0 : Int) < (a0.size : Int) := of_decide_eq_true (by first | (with_reducible assumption) | assumption); omega); have hx6 : ∀ h : 0 < a0.size, ((a0[0]'h).toNat : Int) = bt a0 0 := bt_at a0 0; clear p6; have qi6 : (0 < (a0.size : Int)) = True := eq_true (of_decide_eq_true (by first | (with_reducible assumption) | assumption)); replace q6 := eq_true q6) | ((with_reducible refine gate_callee (f := 25) rfl ?_); refine goesL_ (some 16) rfl rfl Tryd.func25 (by kernel_rfl) rfl #[.string (a0.extract 0 20)] rfl (by (try simp only [List.map_toArray, List.map_cons, List.map_nil]); first | done | rfl | (simp only [List.length_drop, List.length_take]; rfl)) ?_; (with_reducible refine (gangwayref03_Of.calls k (a0.extract 0 20) t311 _ A10.out).mono ?_); rintro e w' ⟨rfl, ⟨nd, rfl⟩⟩; refine ⟨_, rfl, ?_⟩; (try (rw [drewN_self w40]; generalize hq_ : World.drewN w40 _ = w40; have n0_ : Aside0 (w40.heap[gb310]? = some (.cells #[.int .i64 0, .int .i64 0, .bool false, .bool false, .int .i64 0, .int .i64 0, .int .i64 0, .int .u32 0, .int .u32 0, .string (⟨#[]⟩ : ByteArray)] 24 (0, 0))) := ⟨by rw [← hq_]; exact (by (with_reducible repeat (first | refine blk_drewN ?_ _ | refine blk_drew ?_ | refine blk_alloc ?_ _)); exact BK310.out)⟩; have n1_ : Aside0 (Below w.heap.size w w40) := ⟨by rw [← hq_]; exact (by repeat (first | (with_reducible first | exact HB.out | apply below_alloc | apply pw_below_drewN | apply below_drew1 | refine below_set ?_ GE310.out) | exact HB.out))⟩; clear BK310 HB hq_; have BK310 := n0_; have HB := n1_; clear n0_ n1_)); have hcz41_0 : w40.cell? ⟨gb310, 0, none⟩ = some (.int .i64 0) := (blk_cell BK310.out 0).trans rfl; have hcz41_1 : w40.cell? ⟨gb310, 1, none⟩ = some (.int .i64 0) := (blk_cell BK310.out 1).trans rfl; have hcz41_2 : w40.cell? ⟨gb310, 2, none⟩ = some (.bool false) := (blk_cell BK310.out 2).trans rfl; have hcz41_3 : w40.cell? ⟨gb310, 3, none⟩ = some (.bool false) := (blk_cell BK310.out 3).trans rfl; have hcz41_4 : w40.cell? ⟨gb310, 4, none⟩ = some (.int .i64 0) := (blk_cell BK310.out 4).trans rfl; have hcz41_5 : w40.cell? ⟨gb310, 5, none⟩ = some (.int .i64 0) := (blk_cell BK310.out 5).trans rfl; have hcz41_6 : w40.cell? ⟨gb310, 6, none⟩ = some (.int .i64 0) := (blk_cell BK310.out 6).trans rfl; have hcz41_7 : w40.cell? ⟨gb310, 7, none⟩ = some (.int .u32 0) := (blk_cell BK310.out 7).trans rfl; have hcz41_8 : w40.cell? ⟨gb310, 8, none⟩ = some (.int .u32 0) := (blk_cell BK310.out 8).trans rfl; have hcz41_9 : w40.cell? ⟨gb310, 9, none⟩ = some (.string (⟨#[]⟩ : ByteArray)) := (blk_cell BK310.out 9).trans rfl; have hfz41_0 := blk_frozen BK310.out 0; have hfz41_1 := blk_frozen BK310.out 1; have hfz41_2 := blk_frozen BK310.out 2; have hfz41_3 := blk_frozen BK310.out 3; have hfz41_4 := blk_frozen BK310.out 4; have hfz41_5 := blk_frozen BK310.out 5; have hfz41_6 := blk_frozen BK310.out 6; have hfz41_7 := blk_frozen BK310.out 7; have hfz41_8 := blk_frozen BK310.out 8; have hfz41_9 := blk_frozen BK310.out 9))
       refine bodyPost_ret (results_ct rfl _ _ gb310 24 #[.int .i64 0, .int .i64 0, .bool false, .bool false, .int .i64 0, .int .i64 0, .int .i64 0, .int .u32 0, .int .u32 0, .string (⟨#[]⟩ : ByteArray)] (0, 0) _ rfl (by (with_reducible repeat (first | refine blk_drewN ?_ _ | refine blk_drew ?_ | refine blk_alloc ?_ _)); refine blk_put (cs := #[.int .i64 0, .int .i64 0, .bool false, .bool false, .int .i64 0, .int .i64 0, .int .i64 0, .int .u32 0, .int .u32 0, .string (⟨#[]⟩ : ByteArray)]) ?_ 9 _ rfl; (with_reducible repeat (first | refine blk_drewN ?_ _ | refine blk_drew ?_ | refine blk_alloc ?_ _)); refine blk_put (cs := #[.int .i64 0, .int .i64 0, .bool false, .bool false, .int .i64 0, .int .i64 0, .int .i64 0, .int .u32 0, .int .u32 0, .string (⟨#[]⟩ : ByteArray)]) ?_ 8 _ rfl; (with_reducible repeat (first | refine blk_drewN ?_ _ | refine blk_drew ?_ | refine blk_alloc ?_ _)); refine blk_put (cs := #[.int .i64 0, .int .i64 0, .bool false, .bool false, .int .i64 0, .int .i64 0, .int .i64 0, .int .u32 0, .int .u32 0, .string (⟨#[]⟩ : ByteArray)]) ?_ 7 _ rfl; (with_reducible repeat (first | refine blk_drewN ?_ _ | refine blk_drew ?_ | refine blk_alloc ?_ _)); refine blk_put (cs := #[.int .i64 0, .int .i64 0, .bool false, .bool false, .int .i64 0, .int .i64 0, .int .i64 0, .int .u32 0, .int .u32 0, .string (⟨#[]⟩ : ByteArray)]) ?_ 6 _ rfl; (with_reducible repeat (first | refine blk_drewN ?_ _ | refine blk_drew ?_ | refine blk_alloc ?_ _)); refine blk_put (cs := #[.int .i64 0, .int .i64 0, .bool false, .bool false, .int .i64 0, .int .i64 0, .int .i64 0, .int .u32 0, .int .u32 0, .string (⟨#[]⟩ : ByteArray)]) ?_ 5 _ rfl; (with_reducible repeat (first | refine blk_drewN ?_ _ | refine blk_drew ?_ | refine blk_alloc ?_ _)); refine blk_put (cs := #[.int .i64 0, .int .i64 0, .bool false, .bool false, .int .i64 0, .int .i64 0, .int .i64 0, .int .u32 0, .int .u32 0, .string (⟨#[]⟩ : ByteArray)]) ?_ 4 _ rfl; (with_reducible repeat (first | refine blk_drewN ?_ _ | refine blk_drew ?_ | refine blk_alloc ?_ _)); refine blk_put (cs := #[.int .i64 0, .int .i64 0, .bool false, .bool false, .int .i64 0, .int .i64 0, .int .i64 0, .int .u32 0, .int .u32 0, .string (⟨#[]⟩ : ByteArray)]) ?_ 3 _ rfl; (with_reducible repeat (first | refine blk_drewN ?_ _ | refine blk_drew ?_ | refine blk_alloc ?_ _)); refine blk_put (cs := #[.int .i64 0, .int .i64 0, .bool false, .bool false, .int .i64 0, .int .i64 0, .int .i64 0, .int .u32 0, .int .u32 0, .string (⟨#[]⟩ : ByteArray)]) ?_ 2 _ rfl; (with_reducible repeat (first | refine blk_drewN ?_ _ | refine blk_drew ?_ | refine blk_alloc ?_ _)); refine blk_put (cs := #[.int .i64 0, .int .i64 0, .bool false, .bool false, .int .i64 0, .int .i64 0, .int .i64 0, .int .u32 0, .int .u32 0, .string (⟨#[]⟩ : ByteArray)]) ?_ 1 _ rfl; (with_reducible repeat (first | refine blk_drewN ?_ _ | refine blk_drew ?_ | refine blk_alloc ?_ _)); refine blk_put (cs := #[.int .i64 0, .int .i64 0, .bool false, .bool false, .int .i64 0, .int .i64 0, .int .i64 0, .int .u32 0, .int .u32 0, .string (⟨#[]⟩ : ByteArray)]) ?_ 0 _ rfl; (with_reducible repeat (first | refine blk_drewN ?_ _ | refine blk_drew ?_ | refine blk_alloc ?_ _)); exact BK310.out) Tryd.underlying24 rfl (by kernel_rfl)) rfl ?_
       exact ⟨by first | rfl | (simp [errW_none, errW_some] <;> rfl) | (simp [*, errW_none, errW_some] <;> rfl) | (simp [*, IntKind.wrap_u32]; done) | (simp_all [IntKind.wrap_u32]; done), by repeat (first | (with_reducible first | exact HB.out | apply below_alloc | apply pw_below_drewN | apply below_drew1 | refine below_set ?_ GE310.out) | exact HB.out)⟩
     ·rw [if_neg c9] at H
      exact absurd H (by simp)
    ·rw [if_neg c8] at H
     exact absurd H (by simp)
   ·rw [if_neg c7] at H
    have c7b0 : ((bt a0 0) == 69) = false := beq_eq_false_iff_ne.mpr c7
    have c7b1 : ((bt a0 0) != 69) = true := bne_iff_ne.mpr c7
    simp only [Option.some.injEq, Prod.mk.injEq] at H
    obtain ⟨rfl, rfl, rfl, rfl, rfl, rfl, rfl, rfl, rfl, rfl, rfl⟩ := H
    go_enter Tryd.func17, Tryd.ntmps17
    go_wp2_with (first | ((with_reducible refine gate_dst (N := 2) rfl ?_); refine box_event ?hg (N := 2) ?hd (cs := #[.int .i64 0, .int .i64 0, .bool false, .bool false, .int .i64 0, .int .i64 0, .int .i64 0, .int .u32 0, .int .u32 0, .string (⟨#[]⟩ : ByteArray)]) (t := 24) ?hr ?_; (case hd => rfl); (case hg => rfl); (case hr => first | (go_simp; done) | (go_simp; rfl)); intro gb310 hg w42 hbox hb; have n0_ := Aside0.mk (below_step (by repeat (first | (with_reducible first | exact HB.out | apply below_alloc | apply pw_below_drewN | apply below_drew1) | exact HB.out)) hb); have n1_ := Aside0.mk (hbox); have n2_ := Aside0.mk ((by rw [hg]; exact (below_size (by repeat (first | (with_reducible first | exact HB.out | apply below_alloc | apply pw_below_drewN | apply below_drew1) | exact HB.out))) : w.heap.size ≤ gb310)); have n3_ := Aside0.mk ((by rw [hg]; exact (below_size (by repeat (first | (with_reducible first | exact HB.out | apply below_alloc | apply pw_below_drewN | apply below_drew1) | exact HB.out))) : w.heap.size ≤ gb310)); clear HB; have HB := n0_; have BK310 := n1_; have GW310 := n2_; have GE310 := n3_; clear n0_ n1_ n2_ n3_; clear hb hbox hg; have p6 : 0 ≤ (0 : Int) := (by omega); have q6 : 0 < a0.size := (by have : (0 : Int) < (a0.size : Int) := of_decide_eq_true (by first | (with_reducible assumption) | assumption); omega); have hx6 : ∀ h : 0 < a0.size, ((a0[0]'h).toNat : Int) = bt a0 0 := bt_at a0 0; clear p6; have qi6 : (0 < (a0.size : Int)) = True := eq_true (of_decide_eq_true (by first | (with_reducible assumption) | assumption)); replace q6 := eq_true q6; have hcz43_0 : w42.cell? ⟨gb310, 0, none⟩ = some (.int .i64 0) := (blk_cell BK310.out 0).trans rfl; have hcz43_1 : w42.cell? ⟨gb310, 1, none⟩ = some (.int .i64 0) := (blk_cell BK310.out 1).trans rfl; have hcz43_2 : w42.cell? ⟨gb310, 2, none⟩ = some (.bool false) := (blk_cell BK310.out 2).trans rfl; have hcz43_3 : w42.cell? ⟨gb310, 3, none⟩ = some (.bool false) := (blk_cell BK310.out 3).trans rfl; have hcz43_4 : w42.cell? ⟨gb310, 4, none⟩ = some (.int .i64 0) := (blk_cell BK310.out 4).trans rfl; have hcz43_5 : w42.cell? ⟨gb310, 5, none⟩ = some (.int .i64 0) := (blk_cell BK310.out 5).trans rfl; have hcz43_6 : w42.cell? ⟨gb310, 6, none⟩ = some (.int .i64 0) := (blk_cell BK310.out 6).trans rfl; have hcz43_7 : w42.cell? ⟨gb310, 7, none⟩ = some (.int .u32 0) := (blk_cell BK310.out 7).trans rfl; have hcz43_8 : w42.cell? ⟨gb310, 8, none⟩ = some (.int .u32 0) := (blk_cell BK310.out 8).trans rfl; have hcz43_9 : w42.cell? ⟨gb310, 9, none⟩ = some (.string (⟨#[]⟩ : ByteArray)) := (blk_cell BK310.out 9).trans rfl; have hfz43_0 := blk_frozen BK310.out 0; have hfz43_1 := blk_frozen BK310.out 1; have hfz43_2 := blk_frozen BK310.out 2; have hfz43_3 := blk_frozen BK310.out 3; have hfz43_4 := blk_frozen BK310.out 4; have hfz43_5 := blk_frozen BK310.out 5; have hfz43_6 := blk_frozen BK310.out 6; have hfz43_7 := blk_frozen BK310.out 7; have hfz43_8 := blk_frozen BK310.out 8; have hfz43_9 := blk_frozen BK310.out 9))
    refine bodyPost_ret (results_ct rfl _ _ gb310 24 #[.int .i64 0, .int .i64 0, .bool false, .bool false, .int .i64 0, .int .i64 0, .int .i64 0, .int .u32 0, .int .u32 0, .string (⟨#[]⟩ : ByteArray)] (0, 0) _ rfl (by (with_reducible repeat (first | refine blk_drewN ?_ _ | refine blk_drew ?_ | refine blk_alloc ?_ _)); refine blk_put (cs := #[.int .i64 0, .int .i64 0, .bool false, .bool false, .int .i64 0, .int .i64 0, .int .i64 0, .int .u32 0, .int .u32 0, .string (⟨#[]⟩ : ByteArray)]) ?_ 9 _ rfl; (with_reducible repeat (first | refine blk_drewN ?_ _ | refine blk_drew ?_ | refine blk_alloc ?_ _)); refine blk_put (cs := #[.int .i64 0, .int .i64 0, .bool false, .bool false, .int .i64 0, .int .i64 0, .int .i64 0, .int .u32 0, .int .u32 0, .string (⟨#[]⟩ : ByteArray)]) ?_ 8 _ rfl; (with_reducible repeat (first | refine blk_drewN ?_ _ | refine blk_drew ?_ | refine blk_alloc ?_ _)); refine blk_put (cs := #[.int .i64 0, .int .i64 0, .bool false, .bool false, .int .i64 0, .int .i64 0, .int .i64 0, .int .u32 0, .int .u32 0, .string (⟨#[]⟩ : ByteArray)]) ?_ 7 _ rfl; (with_reducible repeat (first | refine blk_drewN ?_ _ | refine blk_drew ?_ | refine blk_alloc ?_ _)); refine blk_put (cs := #[.int .i64 0, .int .i64 0, .bool false, .bool false, .int .i64 0, .int .i64 0, .int .i64 0, .int .u32 0, .int .u32 0, .string (⟨#[]⟩ : ByteArray)]) ?_ 6 _ rfl; (with_reducible repeat (first | refine blk_drewN ?_ _ | refine blk_drew ?_ | refine blk_alloc ?_ _)); refine blk_put (cs := #[.int .i64 0, .int .i64 0, .bool false, .bool false, .int .i64 0, .int .i64 0, .int .i64 0, .int .u32 0, .int .u32 0, .string (⟨#[]⟩ : ByteArray)]) ?_ 5 _ rfl; (with_reducible repeat (first | refine blk_drewN ?_ _ | refine blk_drew ?_ | refine blk_alloc ?_ _)); refine blk_put (cs := #[.int .i64 0, .int .i64 0, .bool false, .bool false, .int .i64 0, .int .i64 0, .int .i64 0, .int .u32 0, .int .u32 0, .string (⟨#[]⟩ : ByteArray)]) ?_ 4 _ rfl; (with_reducible repeat (first | refine blk_drewN ?_ _ | refine blk_drew ?_ | refine blk_alloc ?_ _)); refine blk_put (cs := #[.int .i64 0, .int .i64 0, .bool false, .bool false, .int .i64 0, .int .i64 0, .int .i64 0, .int .u32 0, .int .u32 0, .string (⟨#[]⟩ : ByteArray)]) ?_ 3 _ rfl; (with_reducible repeat (first | refine blk_drewN ?_ _ | refine blk_drew ?_ | refine blk_alloc ?_ _)); refine blk_put (cs := #[.int .i64 0, .int .i64 0, .bool false, .bool false, .int .i64 0, .int .i64 0, .int .i64 0, .int .u32 0, .int .u32 0, .string (⟨#[]⟩ : ByteArray)]) ?_ 2 _ rfl; (with_reducible repeat (first | refine blk_drewN ?_ _ | refine blk_drew ?_ | refine blk_alloc ?_ _)); refine blk_put (cs := #[.int .i64 0, .int .i64 0, .bool false, .bool false, .int .i64 0, .int .i64 0, .int .i64 0, .int .u32 0, .int .u32 0, .string (⟨#[]⟩ : ByteArray)]) ?_ 1 _ rfl; (with_reducible repeat (first | refine blk_drewN ?_ _ | refine blk_drew ?_ | refine blk_alloc ?_ _)); refine blk_put (cs := #[.int .i64 0, .int .i64 0, .bool false, .bool false, .int .i64 0, .int .i64 0, .int .i64 0, .int .u32 0, .int .u32 0, .string (⟨#[]⟩ : ByteArray)]) ?_ 0 _ rfl; (with_reducible repeat (first | refine blk_drewN ?_ _ | refine blk_drew ?_ | refine blk_alloc ?_ _)); exact BK310.out) Tryd.underlying24 rfl (by kernel_rfl)) rfl ?_
    exact ⟨by first | rfl | (simp [errW_none, errW_some] <;> rfl) | (simp [*, errW_none, errW_some] <;> rfl) | (simp [*, IntKind.wrap_u32]; done) | (simp_all [IntKind.wrap_u32]; done), by repeat (first | (with_reducible first | exact HB.out | apply below_alloc | apply pw_below_drewN | apply below_drew1 | refine below_set ?_ GE310.out) | exact HB.out)⟩
  ·rw [if_neg c5] at H
   exact absurd H (by simp)

end Go.Proofs.YtigagipeaheclaaDoor.P
