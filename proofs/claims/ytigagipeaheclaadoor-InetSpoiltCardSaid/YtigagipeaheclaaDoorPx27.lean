-- squeezed
-- Written by wip/hprint.py (this session's program) through the kit's print program; hand contracts are marked 'by hand'.
import Derived.Test.YtigagipeaheclaaDoorPx0
import Derived.Test.YtigagipeaheclaaDoorPx2
import Derived.Test.YtigagipeaheclaaDoorPx7
import Derived.Test.YtigagipeaheclaaDoorPx15
import Derived.Test.YtigagipeaheclaaDoorPx18
namespace Go.Proofs.YtigagipeaheclaaDoor.P
open Go.RowKit Go.Proofs.YtigagipeaheclaaDoorW.PrintWords Go.Proofs.YtigagipeaheclaaDoorW.PrintLast Go.Proofs.YtigagipeaheclaaDoorW.PrintMore
attribute [local go_sem] max2_int min2_int max_two min_two max_three min_three max_four min_four   -- for this text's walks alone
set_option linter.unusedVariables false
set_option linter.unusedSimpArgs false

/-! ### gangwaylaw06_InetSpoilt: function 7 -/
def gangwaylaw06_InetSpoilt.j0 : Nat → Int → ByteArray → Int → Option (Bool)
 | 0, _, _, _ => none
 | k + 1, x2, x7, x9 => if 0 ≤ x9 then (if x9 ≤ (x7.size : Int) then ((some (([x2] : List Int) : List Int)).bind fun y456 => (if (x7.extract 0 (x9 : Int).toNat).size + (strOfNums y456).size ≤ 9223372036854775807 then (if 0 ≤ (wrap64 (x9 + 1)) then (if (wrap64 (x9 + 1)) ≤ (x7.size : Int) then (if ((x7.extract 0 (x9 : Int).toNat) ++ (strOfNums y456)).size + (x7.extract ((wrap64 (x9 + 1)) : Int).toNat x7.size).size ≤ 9223372036854775807 then ((inet_Parse.f k (((x7.extract 0 (x9 : Int).toNat) ++ (strOfNums y456)) ++ (x7.extract ((wrap64 (x9 + 1)) : Int).toNat x7.size))).bind fun bt459 => (if x9 < (x7.size : Int) then (if x2 = (bt x7 x9) then (if bt459.2.2.2.2.2.2.2.2.2.2 = 0 then ((gangwaylaw06_fixed.f k).bind fun t471 => (some t471)) else (none)) else (if bt459.2.2.2.2.2.2.2.2.2.2 = 0 then (none) else ((gangwaylaw06_fixed.f k).bind fun t472 => (some t472)))) else (none))) else (none)) else (none)) else (none)) else (none))) else (none)) else (none)
def gangwaylaw06_InetSpoilt.f (k : Nat) (a0_0 : Int) (a0_1 : Int) (a0_2 : Bool) (a0_3 : Bool) (a0_4 : Int) (a0_5 : Int) (a0_6 : Int) (a0_7 : Int) (a0_8 : Int) (a0_9 : ByteArray) (a1 : Int) (a2 : Int) : Option (Bool) := (gangwaylaw06_cut.f a0_0 a0_1 a0_2 a0_3 a0_4 a0_5 a0_6 a0_7 a0_8 a0_9).bind fun bt443 => ((inet_Build.f k bt443.1 bt443.2.1 bt443.2.2.1 bt443.2.2.2.1 bt443.2.2.2.2.1 bt443.2.2.2.2.2.1 bt443.2.2.2.2.2.2.1 bt443.2.2.2.2.2.2.2.1 bt443.2.2.2.2.2.2.2.2.1 bt443.2.2.2.2.2.2.2.2.2).bind fun bt453 => (if bt453.2 = 0 then (if (bt453.1.size : Int) < 20 then (none) else (gangwaylaw06_InetSpoilt.j0 k a2 bt453.1 (Int.tmod (Go.bits .and .i64 a1 65535) 20))) else (if bt453.1.toList = ([] : List UInt8) then ((gangwaylaw06_fixed.f k).bind fun t455 => (some t455)) else (none))))
theorem gangwaylaw06_InetSpoilt.mono_l : ∀ k, (∀ y0 y1 y2, LeO (gangwaylaw06_InetSpoilt.j0 k y0 y1 y2) (gangwaylaw06_InetSpoilt.j0 (k + 1) y0 y1 y2))
 | 0 => fun _ _ _ r h => by simp [gangwaylaw06_InetSpoilt.j0] at h
 | k + 1 => by
  have ih0 := gangwaylaw06_InetSpoilt.mono_l k
  ·intro y0 y1 y2
   unfold gangwaylaw06_InetSpoilt.j0
   repeat' first
   | (with_reducible exact ih0 _ _ _)
   | (with_reducible exact gangwaylaw06_fixed.mono _)
   | (with_reducible exact inet_Build.mono _ _ _ _ _ _ _ _ _ _ _)
   | (with_reducible exact inet_Parse.mono _ _)
   | (with_reducible exact LeO.refl _)
   | (with_reducible exact LeO.none _)
   | (with_reducible refine LeO.ite ?_ ?_)
   | (with_reducible refine LeO.bind ?_ (fun _ => ?_))
   | exact ih0 _ _ _
   | exact gangwaylaw06_fixed.mono _
   | exact inet_Build.mono _ _ _ _ _ _ _ _ _ _ _
   | exact inet_Parse.mono _ _
   | exact LeO.none _
   | refine LeO.ite ?_ ?_
   | refine LeO.bind ?_ (fun _ => ?_)
theorem gangwaylaw06_InetSpoilt.mono : ∀ a0 a1 a2 a3 a4 a5 a6 a7 a8 a9 a10 a11 k, LeO (gangwaylaw06_InetSpoilt.f k a0 a1 a2 a3 a4 a5 a6 a7 a8 a9 a10 a11) (gangwaylaw06_InetSpoilt.f (k + 1) a0 a1 a2 a3 a4 a5 a6 a7 a8 a9 a10 a11) := by
 intro a0 a1 a2 a3 a4 a5 a6 a7 a8 a9 a10 a11 k
 have ih0 := gangwaylaw06_InetSpoilt.mono_l k
 unfold gangwaylaw06_InetSpoilt.f
 repeat' first
   | (with_reducible exact ih0 _ _ _)
   | (with_reducible exact gangwaylaw06_fixed.mono _)
   | (with_reducible exact inet_Build.mono _ _ _ _ _ _ _ _ _ _ _)
   | (with_reducible exact inet_Parse.mono _ _)
   | (with_reducible exact LeO.refl _)
   | (with_reducible exact LeO.none _)
   | (with_reducible refine LeO.ite ?_ ?_)
   | (with_reducible refine LeO.bind ?_ (fun _ => ?_))
   | exact ih0 _ _ _
   | exact gangwaylaw06_fixed.mono _
   | exact inet_Build.mono _ _ _ _ _ _ _ _ _ _ _
   | exact inet_Parse.mono _ _
   | exact LeO.none _
   | refine LeO.ite ?_ ?_
   | refine LeO.bind ?_ (fun _ => ?_)
def gangwaylaw06_InetSpoilt.T8 : Bool × List (List Nat × List Nat) := (true, [([], []), ([], []), ([0, 1], [0, 1]), ([], []), ([3], [3]), ([4], [4]), ([2, 5], [2, 5]), ([], []), ([], []), ([8], [8]), ([7, 9], [7, 9]), ([6, 10], [6, 10]), ([11], [11]), ([12], [12]), ([13], [13]), ([13], [13]), ([], []), ([16, 14, 12, 0, 1, 2, 3, 4, 5, 6, 7, 8, 9, 10, 11, 12, 13, 14, 16], [14, 16]), ([15, 17, 0, 1, 2, 3, 4, 5, 6, 7, 8, 9, 10, 11, 12, 13, 14, 15, 16, 17], [15])])
def gangwaylaw06_InetSpoilt.B8 : List Nat := [0, 0, 3, 0, 8, 24, 63, 0, 0, 256, 896, 2047, 4095, 8191, 16383, 16383, 0, 98303, 262143]
theorem gangwaylaw06_InetSpoilt.tab8 : rtab .any (opsOf Tryd.f7 8) = gangwaylaw06_InetSpoilt.T8 := by kernel_rfl
theorem gangwaylaw06_InetSpoilt.bits8 : waitsOk gangwaylaw06_InetSpoilt.T8.2 gangwaylaw06_InetSpoilt.B8 = true := by kernel_rfl
set_option maxHeartbeats 8000000 in
set_option maxRecDepth 100000 in
theorem gangwaylaw06_InetSpoilt.calls (k : Nat) (a0_0 : Int) (a0_1 : Int) (a0_2 : Bool) (a0_3 : Bool) (a0_4 : Int) (a0_5 : Int) (a0_6 : Int) (a0_7 : Int) (a0_8 : Int) (a0_9 : ByteArray) (a1 : Int) (a2 : Int) (r : Bool) (w : World) (hL : Laid w) (h : gangwaylaw06_InetSpoilt.f k a0_0 a0_1 a0_2 a0_3 a0_4 a0_5 a0_6 a0_7 a0_8 a0_9 a1 a2 = some r) :
  Calls Tryd.prog 7 #[.agg #[.int .i64 a0_0, .int .i64 a0_1, .bool a0_2, .bool a0_3, .int .i64 a0_4, .int .i64 a0_5, .int .i64 a0_6, .int .u32 a0_7, .int .u32 a0_8, .string a0_9], .int .i64 a1, .int .u8 a2] w fun e w' => e = .returned (.bool r) ∧ Below w.heap.size w w' := by
 have HLD := Aside0.mk hL
 clear hL
 have hu24 := Tryd.underlying24
 have HB := Aside0.mk (Below.refl w.heap.size w)
 have H : ((gangwaylaw06_cut.f a0_0 a0_1 a0_2 a0_3 a0_4 a0_5 a0_6 a0_7 a0_8 a0_9).bind fun bt443 => ((inet_Build.f k bt443.1 bt443.2.1 bt443.2.2.1 bt443.2.2.2.1 bt443.2.2.2.2.1 bt443.2.2.2.2.2.1 bt443.2.2.2.2.2.2.1 bt443.2.2.2.2.2.2.2.1 bt443.2.2.2.2.2.2.2.2.1 bt443.2.2.2.2.2.2.2.2.2).bind fun bt453 => (if bt453.2 = 0 then (if (bt453.1.size : Int) < 20 then (none) else (gangwaylaw06_InetSpoilt.j0 k a2 bt453.1 (Int.tmod (Go.bits .and .i64 a1 65535) 20))) else (if bt453.1.toList = ([] : List UInt8) then ((gangwaylaw06_fixed.f k).bind fun t455 => (some t455)) else (none))))) = some r := h
 clear h
 replace H := Option.bind_eq_some_iff.mp H
 obtain ⟨⟨t443, t444, t445, t446, t447, t448, t449, t450, t451, t452⟩, A40, H⟩ := H
 replace H : ((inet_Build.f k t443 t444 t445 t446 t447 t448 t449 t450 t451 t452).bind fun bt453 => (if bt453.2 = 0 then (if (bt453.1.size : Int) < 20 then (none) else (gangwaylaw06_InetSpoilt.j0 k a2 bt453.1 (Int.tmod (Go.bits .and .i64 a1 65535) 20))) else (if bt453.1.toList = ([] : List UInt8) then ((gangwaylaw06_fixed.f k).bind fun t455 => (some t455)) else (none)))) = some r := H
 have A4 := Aside0.mk A40
 clear A40
 replace H := Option.bind_eq_some_iff.mp H
 obtain ⟨⟨t453, t454⟩, A50, H⟩ := H
 replace H : (if t454 = 0 then (if (t453.size : Int) < 20 then (none) else (gangwaylaw06_InetSpoilt.j0 k a2 t453 (Int.tmod (Go.bits .and .i64 a1 65535) 20))) else (if t453.toList = ([] : List UInt8) then ((gangwaylaw06_fixed.f k).bind fun t455 => (some t455)) else (none))) = some r := H
 have A5 := Aside0.mk A50
 clear A50
 by_cases c6 : t454 = 0
 ·rw [if_pos c6] at H
  have c6b0 : (t454 == 0) = true := beq_iff_eq.mpr c6
  have c6b1 : (t454 != 0) = false := bne_eq_false_iff_eq.mpr c6
  clear c6
  by_cases c7 : (t453.size : Int) < 20
  ·rw [if_pos c7] at H
   exact absurd H (by simp)
  ·rw [if_neg c7] at H
   have c7b0 : decide ((t453.size : Int) < 20) = false := decide_eq_false c7
   have c7b1 : decide (t453.size < 20) = false := decide_eq_false (by omega)
   clear c7
   have HC8 := Aside0.mk H
   clear H
   go_enter Tryd.func7, Tryd.ntmps7
   go_upto_region 7 with (first | ((with_reducible refine gate_dst (N := 3) rfl ?_); refine box_event ?hg (N := 3) ?hd (cs := #[.int .i64 a0_0, .int .i64 a0_1, .bool a0_2, .bool a0_3, .int .i64 a0_4, .int .i64 a0_5, .int .i64 a0_6, .int .u32 a0_7, .int .u32 a0_8, .string a0_9]) (t := 24) ?hr ?_; (case hd => rfl); (case hg => rfl); (case hr => first | (go_simp; done) | (go_simp; rfl)); intro gb442 hg w9 hbox hb; have n0_ := Aside0.mk (below_step (by repeat (first | (with_reducible first | exact HB.out | apply below_alloc | apply pw_below_drewN | apply below_drew1) | exact HB.out)) hb); have n1_ := Aside0.mk (hbox); have n2_ := Aside0.mk ((by rw [hg]; exact (below_size (by repeat (first | (with_reducible first | exact HB.out | apply below_alloc | apply pw_below_drewN | apply below_drew1) | exact HB.out))) : w.heap.size ≤ gb442)); have n3_ := Aside0.mk ((by rw [hg]; exact (below_size (by repeat (first | (with_reducible first | exact HB.out | apply below_alloc | apply pw_below_drewN | apply below_drew1) | exact HB.out))) : w.heap.size ≤ gb442)); clear HB; have HB := n0_; have BK442 := n1_; have GW442 := n2_; have GE442 := n3_; clear n0_ n1_ n2_ n3_; clear hb hbox hg; have hcz10_0 : w9.cell? ⟨gb442, 0, none⟩ = some (.int .i64 a0_0) := (blk_cell BK442.out 0).trans rfl; have hcz10_1 : w9.cell? ⟨gb442, 1, none⟩ = some (.int .i64 a0_1) := (blk_cell BK442.out 1).trans rfl; have hcz10_2 : w9.cell? ⟨gb442, 2, none⟩ = some (.bool a0_2) := (blk_cell BK442.out 2).trans rfl; have hcz10_3 : w9.cell? ⟨gb442, 3, none⟩ = some (.bool a0_3) := (blk_cell BK442.out 3).trans rfl; have hcz10_4 : w9.cell? ⟨gb442, 4, none⟩ = some (.int .i64 a0_4) := (blk_cell BK442.out 4).trans rfl; have hcz10_5 : w9.cell? ⟨gb442, 5, none⟩ = some (.int .i64 a0_5) := (blk_cell BK442.out 5).trans rfl; have hcz10_6 : w9.cell? ⟨gb442, 6, none⟩ = some (.int .i64 a0_6) := (blk_cell BK442.out 6).trans rfl; have hcz10_7 : w9.cell? ⟨gb442, 7, none⟩ = some (.int .u32 a0_7) := (blk_cell BK442.out 7).trans rfl; have hcz10_8 : w9.cell? ⟨gb442, 8, none⟩ = some (.int .u32 a0_8) := (blk_cell BK442.out 8).trans rfl; have hcz10_9 : w9.cell? ⟨gb442, 9, none⟩ = some (.string a0_9) := (blk_cell BK442.out 9).trans rfl; have hfz10_0 := blk_frozen BK442.out 0; have hfz10_1 := blk_frozen BK442.out 1; have hfz10_2 := blk_frozen BK442.out 2; have hfz10_3 := blk_frozen BK442.out 3; have hfz10_4 := blk_frozen BK442.out 4; have hfz10_5 := blk_frozen BK442.out 5; have hfz10_6 := blk_frozen BK442.out 6; have hfz10_7 := blk_frozen BK442.out 7; have hfz10_8 := blk_frozen BK442.out 8; have hfz10_9 := blk_frozen BK442.out 9) | ((with_reducible refine gate_callee (f := 9) rfl ?_); refine goesL_ (some 13) rfl rfl Tryd.func9 (by kernel_rfl) rfl #[.agg #[.int .i64 a0_0, .int .i64 a0_1, .bool a0_2, .bool a0_3, .int .i64 a0_4, .int .i64 a0_5, .int .i64 a0_6, .int .u32 a0_7, .int .u32 a0_8, .string a0_9]] rfl (by (try simp only [List.map_toArray, List.map_cons, List.map_nil]); first | done | rfl | (simp only [List.length_drop, List.length_take]; rfl)) ?_; (with_reducible refine (gangwaylaw06_cut.calls a0_0 a0_1 a0_2 a0_3 a0_4 a0_5 a0_6 a0_7 a0_8 a0_9 t443 t444 t445 t446 t447 t448 t449 t450 t451 t452 _ A4.out).mono ?_); rintro e w11 ⟨rfl, hb⟩; refine ⟨_, rfl, ?_⟩; have n0_ := Aside0.mk (blk_below (g := gb442) (o := .cells #[.int .i64 a0_0, .int .i64 a0_1, .bool a0_2, .bool a0_3, .int .i64 a0_4, .int .i64 a0_5, .int .i64 a0_6, .int .u32 a0_7, .int .u32 a0_8, .string a0_9] 24 (0, 0)) (by (with_reducible repeat (first | refine blk_drewN ?_ _ | refine blk_drew ?_ | refine blk_alloc ?_ _)); exact BK442.out) hb); have n1_ := Aside0.mk (below_step (by repeat (first | (with_reducible first | exact HB.out | apply below_alloc | apply pw_below_drewN | apply below_drew1 | refine below_set ?_ GE442.out) | exact HB.out)) hb); clear BK442; clear HB; have BK442 := n0_; have HB := n1_; clear n0_ n1_; (try clear hb); (try clear hb2); (try clear hk); (try clear hi); have hcz12_0 : w11.cell? ⟨gb442, 0, none⟩ = some (.int .i64 a0_0) := (blk_cell BK442.out 0).trans rfl; have hcz12_1 : w11.cell? ⟨gb442, 1, none⟩ = some (.int .i64 a0_1) := (blk_cell BK442.out 1).trans rfl; have hcz12_2 : w11.cell? ⟨gb442, 2, none⟩ = some (.bool a0_2) := (blk_cell BK442.out 2).trans rfl; have hcz12_3 : w11.cell? ⟨gb442, 3, none⟩ = some (.bool a0_3) := (blk_cell BK442.out 3).trans rfl; have hcz12_4 : w11.cell? ⟨gb442, 4, none⟩ = some (.int .i64 a0_4) := (blk_cell BK442.out 4).trans rfl; have hcz12_5 : w11.cell? ⟨gb442, 5, none⟩ = some (.int .i64 a0_5) := (blk_cell BK442.out 5).trans rfl; have hcz12_6 : w11.cell? ⟨gb442, 6, none⟩ = some (.int .i64 a0_6) := (blk_cell BK442.out 6).trans rfl; have hcz12_7 : w11.cell? ⟨gb442, 7, none⟩ = some (.int .u32 a0_7) := (blk_cell BK442.out 7).trans rfl; have hcz12_8 : w11.cell? ⟨gb442, 8, none⟩ = some (.int .u32 a0_8) := (blk_cell BK442.out 8).trans rfl; have hcz12_9 : w11.cell? ⟨gb442, 9, none⟩ = some (.string a0_9) := (blk_cell BK442.out 9).trans rfl; have hfz12_0 := blk_frozen BK442.out 0; have hfz12_1 := blk_frozen BK442.out 1; have hfz12_2 := blk_frozen BK442.out 2; have hfz12_3 := blk_frozen BK442.out 3; have hfz12_4 := blk_frozen BK442.out 4; have hfz12_5 := blk_frozen BK442.out 5; have hfz12_6 := blk_frozen BK442.out 6; have hfz12_7 := blk_frozen BK442.out 7; have hfz12_8 := blk_frozen BK442.out 8; have hfz12_9 := blk_frozen BK442.out 9) | ((with_reducible refine gate_callee (f := 10) rfl ?_); refine goesL_ (some 16) rfl rfl Tryd.func10 (by kernel_rfl) rfl #[.agg #[.int .i64 t443, .int .i64 t444, .bool t445, .bool t446, .int .i64 t447, .int .i64 t448, .int .i64 t449, .int .u32 t450, .int .u32 t451, .string t452]] rfl (by (try simp only [List.map_toArray, List.map_cons, List.map_nil]); first | done | rfl | (simp only [List.length_drop, List.length_take]; rfl)) ?_; (with_reducible refine (inet_Build.calls k t443 t444 t445 t446 t447 t448 t449 t450 t451 t452 t453 t454 _ A5.out).mono ?_); rintro e w13 ⟨rfl, hb⟩; refine ⟨_, rfl, ?_⟩; have n0_ := Aside0.mk (blk_below (g := gb442) (o := .cells #[.int .i64 t443, .int .i64 t444, .bool t445, .bool t446, .int .i64 t447, .int .i64 t448, .int .i64 t449, .int .u32 t450, .int .u32 t451, .string t452] 24 (0, 0)) (by (with_reducible repeat (first | refine blk_drewN ?_ _ | refine blk_drew ?_ | refine blk_alloc ?_ _)); refine blk_put (cs := #[.int .i64 t443, .int .i64 t444, .bool t445, .bool t446, .int .i64 t447, .int .i64 t448, .int .i64 t449, .int .u32 t450, .int .u32 t451, .string a0_9]) ?_ 9 _ rfl; (with_reducible repeat (first | refine blk_drewN ?_ _ | refine blk_drew ?_ | refine blk_alloc ?_ _)); refine blk_put (cs := #[.int .i64 t443, .int .i64 t444, .bool t445, .bool t446, .int .i64 t447, .int .i64 t448, .int .i64 t449, .int .u32 t450, .int .u32 a0_8, .string a0_9]) ?_ 8 _ rfl; (with_reducible repeat (first | refine blk_drewN ?_ _ | refine blk_drew ?_ | refine blk_alloc ?_ _)); refine blk_put (cs := #[.int .i64 t443, .int .i64 t444, .bool t445, .bool t446, .int .i64 t447, .int .i64 t448, .int .i64 t449, .int .u32 a0_7, .int .u32 a0_8, .string a0_9]) ?_ 7 _ rfl; (with_reducible repeat (first | refine blk_drewN ?_ _ | refine blk_drew ?_ | refine blk_alloc ?_ _)); refine blk_put (cs := #[.int .i64 t443, .int .i64 t444, .bool t445, .bool t446, .int .i64 t447, .int .i64 t448, .int .i64 a0_6, .int .u32 a0_7, .int .u32 a0_8, .string a0_9]) ?_ 6 _ rfl; (with_reducible repeat (first | refine blk_drewN ?_ _ | refine blk_drew ?_ | refine blk_alloc ?_ _)); refine blk_put (cs := #[.int .i64 t443, .int .i64 t444, .bool t445, .bool t446, .int .i64 t447, .int .i64 a0_5, .int .i64 a0_6, .int .u32 a0_7, .int .u32 a0_8, .string a0_9]) ?_ 5 _ rfl; (with_reducible repeat (first | refine blk_drewN ?_ _ | refine blk_drew ?_ | refine blk_alloc ?_ _)); refine blk_put (cs := #[.int .i64 t443, .int .i64 t444, .bool t445, .bool t446, .int .i64 a0_4, .int .i64 a0_5, .int .i64 a0_6, .int .u32 a0_7, .int .u32 a0_8, .string a0_9]) ?_ 4 _ rfl; (with_reducible repeat (first | refine blk_drewN ?_ _ | refine blk_drew ?_ | refine blk_alloc ?_ _)); refine blk_put (cs := #[.int .i64 t443, .int .i64 t444, .bool t445, .bool a0_3, .int .i64 a0_4, .int .i64 a0_5, .int .i64 a0_6, .int .u32 a0_7, .int .u32 a0_8, .string a0_9]) ?_ 3 _ rfl; (with_reducible repeat (first | refine blk_drewN ?_ _ | refine blk_drew ?_ | refine blk_alloc ?_ _)); refine blk_put (cs := #[.int .i64 t443, .int .i64 t444, .bool a0_2, .bool a0_3, .int .i64 a0_4, .int .i64 a0_5, .int .i64 a0_6, .int .u32 a0_7, .int .u32 a0_8, .string a0_9]) ?_ 2 _ rfl; (with_reducible repeat (first | refine blk_drewN ?_ _ | refine blk_drew ?_ | refine blk_alloc ?_ _)); refine blk_put (cs := #[.int .i64 t443, .int .i64 a0_1, .bool a0_2, .bool a0_3, .int .i64 a0_4, .int .i64 a0_5, .int .i64 a0_6, .int .u32 a0_7, .int .u32 a0_8, .string a0_9]) ?_ 1 _ rfl; (with_reducible repeat (first | refine blk_drewN ?_ _ | refine blk_drew ?_ | refine blk_alloc ?_ _)); refine blk_put (cs := #[.int .i64 a0_0, .int .i64 a0_1, .bool a0_2, .bool a0_3, .int .i64 a0_4, .int .i64 a0_5, .int .i64 a0_6, .int .u32 a0_7, .int .u32 a0_8, .string a0_9]) ?_ 0 _ rfl; (with_reducible repeat (first | refine blk_drewN ?_ _ | refine blk_drew ?_ | refine blk_alloc ?_ _)); exact BK442.out) hb); have n1_ := Aside0.mk (below_step (by repeat (first | (with_reducible first | exact HB.out | apply below_alloc | apply pw_below_drewN | apply below_drew1 | refine below_set ?_ GE442.out) | exact HB.out)) hb); clear BK442; clear HB; have BK442 := n0_; have HB := n1_; clear n0_ n1_; (try clear hb); (try clear hb2); (try clear hk); (try clear hi)))
   (try simp only [Act.put, List.setIfInBounds_toArray, List.set_cons_zero, List.set_cons_succ])
   go_cut [9] (fun v9 wc => ∃ (kq : Nat) (x9_7 : Int), v9 = .int .i64 x9_7 ∧ Aside0 (gangwaylaw06_InetSpoilt.j0 kq a2 t453 x9_7 = some r) ∧ Aside0 (kq ≤ k) ∧ Aside0 (wc.heap[gb442]? = some (.cells #[.int .i64 t443, .int .i64 t444, .bool t445, .bool t446, .int .i64 t447, .int .i64 t448, .int .i64 t449, .int .u32 t450, .int .u32 t451, .string t452] 24 (0, 0))) ∧ Aside0 (Below w.heap.size w wc))
   case first =>
    have H := HC8.out
    clear HC8
    have H' := Aside0.mk H
    clear H
    go_wp2
    go_meet
    case rel => exact ⟨_, (Int.tmod (Go.bits .and .i64 a1 65535) 20), (by first | rfl | (simp; done) | (simp [*]; done)), H', ⟨by first | omega | exact Nat.le_refl _⟩, ⟨by (with_reducible repeat (first | refine blk_drewN ?_ _ | refine blk_drew ?_ | refine blk_alloc ?_ _)); exact BK442.out⟩, ⟨by repeat (first | (with_reducible first | exact HB.out | apply below_alloc | apply pw_below_drewN | apply below_drew1 | refine below_set ?_ GE442.out) | exact HB.out)⟩⟩
   case rest =>
    clear HC8
    try clear c1
    try clear p2
    try clear c6
    try clear c6b0
    try clear c6b1
    try clear c7
    try clear c7b0
    try clear c7b1
    try clear c9
    try clear c10
    try clear hcz10_0
    try clear hcz10_1
    try clear hcz10_2
    try clear hcz10_3
    try clear hcz10_4
    try clear hcz10_5
    try clear hcz10_6
    try clear hcz10_7
    try clear hcz10_8
    try clear hcz10_9
    try clear hcz12_0
    try clear hcz12_1
    try clear hcz12_2
    try clear hcz12_3
    try clear hcz12_4
    try clear hcz12_5
    try clear hcz12_6
    try clear hcz12_7
    try clear hcz12_8
    try clear hcz12_9
    try clear hfz10_0
    try clear hfz10_1
    try clear hfz10_2
    try clear hfz10_3
    try clear hfz10_4
    try clear hfz10_5
    try clear hfz10_6
    try clear hfz10_7
    try clear hfz10_8
    try clear hfz10_9
    try clear hfz12_0
    try clear hfz12_1
    try clear hfz12_2
    try clear hfz12_3
    try clear hfz12_4
    try clear hfz12_5
    try clear hfz12_6
    try clear hfz12_7
    try clear hfz12_8
    try clear hfz12_9
    obtain ⟨kq, x9_7, rfl, HA, HJ7, BK442, HB⟩ := hcut
    cases kq with
    | zero => exact absurd HA.out (by simp [gangwaylaw06_InetSpoilt.j0])
    | succ kj7 =>
     have H := HA.out
     clear HA
     simp only [gangwaylaw06_InetSpoilt.j0] at H
     by_cases c14 : 0 ≤ x9_7
     ·rw [if_pos c14] at H
      have c14b0 := eq_true c14
      have c14b1 : decide (0 ≤ x9_7) = true := decide_eq_true c14
      clear c14
      by_cases c15 : x9_7 ≤ (t453.size : Int)
      ·rw [if_pos c15] at H
       have c15b0 := eq_true c15
       have c15b1 : decide (x9_7 ≤ (t453.size : Int)) = true := decide_eq_true c15
       clear c15
       obtain ⟨y456, hy456⟩ : ∃ y_ : List Int, y_ = (([a2] : List Int)) := ⟨_, rfl⟩
       replace H : (if (t453.extract 0 (x9_7 : Int).toNat).size + (strOfNums y456).size ≤ 9223372036854775807 then (if 0 ≤ (wrap64 (x9_7 + 1)) then (if (wrap64 (x9_7 + 1)) ≤ (t453.size : Int) then (if ((t453.extract 0 (x9_7 : Int).toNat) ++ (strOfNums y456)).size + (t453.extract ((wrap64 (x9_7 + 1)) : Int).toNat t453.size).size ≤ 9223372036854775807 then ((inet_Parse.f kj7 (((t453.extract 0 (x9_7 : Int).toNat) ++ (strOfNums y456)) ++ (t453.extract ((wrap64 (x9_7 + 1)) : Int).toNat t453.size))).bind fun bt459 => (if x9_7 < (t453.size : Int) then (if a2 = (bt t453 x9_7) then (if bt459.2.2.2.2.2.2.2.2.2.2 = 0 then ((gangwaylaw06_fixed.f kj7).bind fun t471 => (some t471)) else (none)) else (if bt459.2.2.2.2.2.2.2.2.2.2 = 0 then (none) else ((gangwaylaw06_fixed.f kj7).bind fun t472 => (some t472)))) else (none))) else (none)) else (none)) else (none)) else (none)) = some r := by first | (rw [hy456]; with_reducible exact H) | (have H2_ := (Option.bind_some _ _).symm.trans H; rw [hy456]; with_reducible exact H2_) | (have H2_ := (Option.bind_some _ _).symm.trans H; with_reducible exact H2_) | with_reducible exact H | (rw [hy456]; exact H) | exact H
       have Ny456 := Aside0.mk hy456
       clear hy456
       by_cases c16 : (t453.extract 0 (x9_7 : Int).toNat).size + (strOfNums y456).size ≤ 9223372036854775807
       ·rw [if_pos c16] at H
        have c16b0 := eq_true c16
        have c16b1 : decide ((t453.extract 0 (x9_7 : Int).toNat).size + (strOfNums y456).size ≤ 9223372036854775807) = true := decide_eq_true c16
        try have c16b2 : (9223372036854775807 < (t453.extract 0 (x9_7 : Int).toNat).size + (strOfNums y456).size) = False := eq_false (Nat.not_lt.2 c16)
        obtain ⟨ji17, hji17⟩ : ∃ j_ : Int, (wrap64 (x9_7 + 1)) = j_ := ⟨_, rfl⟩
        replace H : (if 0 ≤ (ji17) then (if (ji17) ≤ (t453.size : Int) then (if ((t453.extract 0 (x9_7 : Int).toNat) ++ (strOfNums y456)).size + (t453.extract ((ji17) : Int).toNat t453.size).size ≤ 9223372036854775807 then ((inet_Parse.f kj7 (((t453.extract 0 (x9_7 : Int).toNat) ++ (strOfNums y456)) ++ (t453.extract ((ji17) : Int).toNat t453.size))).bind fun bt459 => (if x9_7 < (t453.size : Int) then (if a2 = (bt t453 x9_7) then (if bt459.2.2.2.2.2.2.2.2.2.2 = 0 then ((gangwaylaw06_fixed.f kj7).bind fun t471 => (some t471)) else (none)) else (if bt459.2.2.2.2.2.2.2.2.2.2 = 0 then (none) else ((gangwaylaw06_fixed.f kj7).bind fun t472 => (some t472)))) else (none))) else (none)) else (none)) else (none)) = some r := by first | (rw [hji17] at H; exact H) | (simp only [hji17] at H ⊢; exact H)
        have hji17w : (IntKind.i64.wrap (x9_7 + 1)) = ji17 := (i64_w _).trans hji17
        by_cases c18 : 0 ≤ (ji17)
        ·rw [if_pos c18] at H
         have c18b0 := eq_true c18
         have c18b1 : decide (0 ≤ (ji17)) = true := decide_eq_true c18
         clear c18
         by_cases c19 : (ji17) ≤ (t453.size : Int)
         ·rw [if_pos c19] at H
          have c19b0 := eq_true c19
          have c19b1 : decide ((ji17) ≤ (t453.size : Int)) = true := decide_eq_true c19
          clear c19
          by_cases c20 : ((t453.extract 0 (x9_7 : Int).toNat) ++ (strOfNums y456)).size + (t453.extract ((ji17) : Int).toNat t453.size).size ≤ 9223372036854775807
          ·rw [if_pos c20] at H
           have c20b0 := eq_true c20
           have c20b1 : decide (((t453.extract 0 (x9_7 : Int).toNat) ++ (strOfNums y456)).size + (t453.extract ((ji17) : Int).toNat t453.size).size ≤ 9223372036854775807) = true := decide_eq_true c20
           have c20z := c20
           simp only [ByteArray.size_append] at c20z
           have c20z1 := eq_true c20z
           have c20z2 := eq_false (Nat.not_lt.2 c20z)
           try have c20b2 : (9223372036854775807 < ((t453.extract 0 (x9_7 : Int).toNat) ++ (strOfNums y456)).size + (t453.extract ((ji17) : Int).toNat t453.size).size) = False := eq_false (Nat.not_lt.2 c20)
           replace H := Option.bind_eq_some_iff.mp H
           obtain ⟨⟨t459, t460, t461, t462, t463, t464, t465, t466, t467, t468, t469⟩, A210, H⟩ := H
           replace H : (if x9_7 < (t453.size : Int) then (if a2 = (bt t453 x9_7) then (if t469 = 0 then ((gangwaylaw06_fixed.f kj7).bind fun t471 => (some t471)) else (none)) else (if t469 = 0 then (none) else ((gangwaylaw06_fixed.f kj7).bind fun t472 => (some t472)))) else (none)) = some r := H
           have A21 := Aside0.mk A210
           clear A210
           by_cases c22 : x9_7 < (t453.size : Int)
           ·rw [if_pos c22] at H
            have c22b0 : decide (x9_7 < (t453.size : Int)) = true := decide_eq_true c22
            clear c22
            by_cases c24 : a2 = (bt t453 x9_7)
            ·rw [if_pos c24] at H
             have c24b0 : (a2 == (bt t453 x9_7)) = true := beq_iff_eq.mpr c24
             have c24b1 : (a2 != (bt t453 x9_7)) = false := bne_eq_false_iff_eq.mpr c24
             clear c24
             by_cases c25 : t469 = 0
             ·rw [if_pos c25] at H
              have c25b0 : (t469 == 0) = true := beq_iff_eq.mpr c25
              have c25b1 : (t469 != 0) = false := bne_eq_false_iff_eq.mpr c25
              clear c25
              replace H := Option.bind_eq_some_iff.mp H
              obtain ⟨t471, A260, H⟩ := H
              replace H : (some t471) = some r := H
              have A26 := Aside0.mk A260
              clear A260
              obtain rfl := Option.some.inj H
              try go_wp2
              have n0_ := Aside0.mk (blk_drew BK442.out)
              have n1_ := Aside0.mk (below_drew1 HB.out)
              clear BK442
              clear HB
              have BK442 := n0_
              have HB := n1_
              clear n0_ n1_
              refine start_ (n := 19) (S := fun w' => True) (ds := []) #[false, false, false, false, false, false, false, false, false, false, false, false, false, false, false, false, false, false, false] (by kernel_rfl) rfl rfl trivial (fun hHeld => ?_); refine with_tabW gangwaylaw06_InetSpoilt.tab8 gangwaylaw06_InetSpoilt.bits8 (fun HT_ HW_ => ?_)
              generalize wc.drew = w27 at BK442 HB hHeld ⊢
              refine pure_ (i := 0) (N := some 33) (v := ?_) (a' := ?_) #[true, false, false, false, false, false, false, false, false, false, false, false, false, false, false, false, false, false, false] rfl rfl (any_of HT_.out (by kernel_rfl)) (fun _ _ _ h => h) (Or.inl ⟨by rfl, ?_⟩) ?_ ?_
              rotate_left
              ·intro w'
               go_simp
               with_reducible rfl
              rotate_left
              ·simp only [Act.put, List.setIfInBounds_toArray, List.set_cons_zero, List.set_cons_succ, i64_w, i32_w]
               rfl
              refine pure_ (i := 1) (N := some 34) (v := ?_) (a' := ?_) #[true, true, false, false, false, false, false, false, false, false, false, false, false, false, false, false, false, false, false] rfl rfl (any_of HT_.out (by kernel_rfl)) (fun _ _ _ h => h) (Or.inl ⟨by rfl, ?_⟩) ?_ ?_
              rotate_left
              ·intro w'
               go_simp
               with_reducible rfl
              rotate_left
              ·simp only [Act.put, List.setIfInBounds_toArray, List.set_cons_zero, List.set_cons_succ, i64_w, i32_w]
               rfl
              refine pure_ (i := 3) (N := some 36) (v := ?_) (a' := ?_) #[true, true, false, true, false, false, false, false, false, false, false, false, false, false, false, false, false, false, false] rfl rfl (any_of HT_.out (by kernel_rfl)) (fun _ _ _ h => h) (Or.inl ⟨by rfl, ?_⟩) ?_ ?_
              rotate_left
              ·intro w'
               go_simp
               with_reducible rfl
              rotate_left
              ·simp only [Act.put, List.setIfInBounds_toArray, List.set_cons_zero, List.set_cons_succ, i64_w, i32_w]
               rfl
              refine pure_ (i := 7) (N := some 40) (v := ?_) (a' := ?_) #[true, true, false, true, false, false, false, true, false, false, false, false, false, false, false, false, false, false, false] rfl rfl (any_of HT_.out (by kernel_rfl)) (fun _ _ _ h => h) (Or.inl ⟨by rfl, ?_⟩) ?_ ?_
              rotate_left
              ·intro w'
               go_simp
               with_reducible rfl
              rotate_left
              ·simp only [Act.put, List.setIfInBounds_toArray, List.set_cons_zero, List.set_cons_succ, i64_w, i32_w]
               rfl
              refine pure_ (i := 8) (N := some 41) (v := ?_) (a' := ?_) #[true, true, false, true, false, false, false, true, true, false, false, false, false, false, false, false, false, false, false] rfl rfl (any_of HT_.out (by kernel_rfl)) (fun _ _ _ h => h) (Or.inl ⟨by rfl, ?_⟩) ?_ ?_
              rotate_left
              ·intro w'
               go_simp
               with_reducible rfl
              rotate_left
              ·simp only [Act.put, List.setIfInBounds_toArray, List.set_cons_zero, List.set_cons_succ, i64_w, i32_w]
               rfl
              refine inv_at [2, 4, 5, 6, 9, 10, 11, 12, 13, 14, 15, 16, 17, 18] (fun a0_ b a w' => ∃ (v457 : Value) (gb470 : Nat) (m16_ : Value), a = putSel a0_ b [(2, 35, .string (t453.extract 0 (x9_7 : Int).toNat)), (4, 37, v457), (5, 38, .string (strOfNums y456)), (6, 39, .string ((t453.extract 0 (x9_7 : Int).toNat) ++ (strOfNums y456))), (9, 42, .int .i64 ji17), (10, 43, .string (t453.extract ((ji17) : Int).toNat t453.size)), (11, 44, .string (((t453.extract 0 (x9_7 : Int).toNat) ++ (strOfNums y456)) ++ (t453.extract ((ji17) : Int).toNat t453.size))), (12, 45, .tuple #[.agg #[.int .i64 t459, .int .i64 t460, .bool t461, .bool t462, .int .i64 t463, .int .i64 t464, .int .i64 t465, .int .u32 t466, .int .u32 t467, .string t468], .int .i64 t469]), (13, 32, .tuple #[.agg #[.int .i64 t459, .int .i64 t460, .bool t461, .bool t462, .int .i64 t463, .int .i64 t464, .int .i64 t465, .int .u32 t466, .int .u32 t467, .string t468], .int .i64 t469]), (14, 46, .agg #[.int .i64 t459, .int .i64 t460, .bool t461, .bool t462, .int .i64 t463, .int .i64 t464, .int .i64 t465, .int .u32 t466, .int .u32 t467, .string t468]), (15, 47, .int .i64 t469), (16, 10, m16_), (18, 11, .int .i64 t469)] ∧ (w'.heap[gb442]? = some (.cells #[.int .i64 t443, .int .i64 t444, .bool t445, .bool t446, .int .i64 t447, .int .i64 t448, .int .i64 t449, .int .u32 t450, .int .u32 t451, .string t452] 24 (0, 0))) ∧ (Below w.heap.size w w') ∧ (b 4 = true → Kd.R (Kd.int .u8) 5 w' w.heap.size (fun _ => True) v457 y456) ∧ (b 16 = true → b 17 = false → w'.heap[gb470]? = some (.cells #[.int .i64 0, .int .i64 0, .bool false, .bool false, .int .i64 0, .int .i64 0, .int .i64 0, .int .u32 0, .int .u32 0, .string (⟨#[]⟩ : ByteArray)] 24 (0, 0))) ∧ (b 16 = true → w.heap.size ≤ gb470) ∧ (b 16 = true → w.heap.size ≤ gb470) ∧ (b 16 = true → gb442 ≠ gb470) ∧ (b 16 = true → gb470 ≠ gb442) ∧ (b 17 = true → w'.heap[gb470]? = some (.cells #[.int .i64 t459, .int .i64 t460, .bool t461, .bool t462, .int .i64 t463, .int .i64 t464, .int .i64 t465, .int .u32 t466, .int .u32 t467, .string t468] 24 (0, 0))) ∧ (b 16 = true → (m16_ : Value) = .pointer (some ⟨gb470, 0, none⟩))) HT_.out HW_.out (by kernel_rfl) (by kernel_rfl) ?_ ?_ ?_
              ·exact ⟨.bool false, 0, .bool false, by simp only [putSel, Bool.false_eq_true, if_false], BK442.out, HB.out, fun h_ => absurd h_ (by decide), fun h_ => absurd h_ (by decide), fun h_ => absurd h_ (by decide), fun h_ => absurd h_ (by decide), fun h_ => absurd h_ (by decide), fun h_ => absurd h_ (by decide), fun h_ => absurd h_ (by decide), fun h_ => absurd h_ (by decide)⟩
              ·skip
               clear BK442 HB
               refine steps_cons ?_ ?_
               ·rintro b a w' ⟨v457, gb470, m16_, ha, Q_BK442, Q_HB, Q_HO458, Q_BK470, Q_GW470, Q_GE470, Q_NB442_470, Q_NB470_442, Q_BK470_e17, Q_X16_⟩ hb_ hon hoff
                refine ⟨_, rfl, fun K hK => ?_⟩
                have e33 : a.tmps[33]? = some (.string t453) := by rw [ha]; exact (putSel_off rfl).trans rfl
                have e34 : a.tmps[34]? = some (.int .i64 x9_7) := by rw [ha]; exact (putSel_off rfl).trans rfl
                replace ha := Aside0.mk ha
                have BK442 := Aside0.mk Q_BK442
                have HB := Aside0.mk Q_HB
                refine value_ (w1 := w') (v := .string (t453.extract 0 (x9_7 : Int).toNat)) (by rfl) rfl ?_ ?_
                ·go_simp
                 (try simp only [i64_w])
                 try rfl
                 all_goals ((try simp only [decide_eq_true_eq, ByteArray.size_append, ByteArray.size_extract] at *); omega)
                refine hK.out _ _ ⟨v457, gb470, m16_, (by rw [ha.out]; exact putSel_upk 0 hb_ rfl rfl rfl), Q_BK442, Q_HB, Q_HO458, Q_BK470, Q_GW470, Q_GE470, Q_NB442_470, Q_NB470_442, fun h0_ => absurd ((hoff 17 (by kernel_rfl)).symm.trans h0_) (by decide), Q_X16_⟩
               refine steps_cons ?_ ?_
               ·rintro b a w' ⟨v457, gb470, m16_, ha, Q_BK442, Q_HB, Q_HO458, Q_BK470, Q_GW470, Q_GE470, Q_NB442_470, Q_NB470_442, Q_BK470_e17, Q_X16_⟩ hb_ hon hoff
                refine ⟨_, rfl, fun K hK => ?_⟩
                have e36 : a.tmps[36]? = some (.int .u8 a2) := by rw [ha]; exact (putSel_off rfl).trans rfl
                replace ha := Aside0.mk ha
                have BK442 := Aside0.mk Q_BK442
                have HB := Aside0.mk Q_HB
                refine Kd.R_lit_step (Kd.int .u8) _ 5 ?hg (N := 37) ?hd (xs := ([a2] : List Int)) (inner := [.int .u8 a2]) (ok := fun _ => True) (okp := fun _ => True) ?hr ?hp (fun _ hk => hk) trivial (Below.refl _ _) (Nat.le_refl _) (by simp) ?_; (case hd => rfl); (case hg => rfl); (case hr => first | (go_simp; done) | (go_simp; rfl)); (case hp => exact (Reps.one (show Kd.M (Kd.int .u8) _ _ _ a2 [.int .u8 a2] from rfl) (Reps.none _ _)))
                intro v457 w28 ho29 hb hg_ hnew_
                clear hg_ hnew_
                (first | rw [← Ny456.out] at ho29 | (simp only [Int.reduceToNat] at ho29; rw [← Ny456.out] at ho29))
                have n0_ := Aside0.mk (Kd.R_lower ho29 (below_size (by repeat (first | (with_reducible first | exact HB.out | apply below_alloc | apply pw_below_drewN | apply below_drew1 | refine below_set ?_ GE442.out) | exact HB.out))))
                have n1_ := Aside0.mk (blk_below (g := gb442) (o := .cells #[.int .i64 t443, .int .i64 t444, .bool t445, .bool t446, .int .i64 t447, .int .i64 t448, .int .i64 t449, .int .u32 t450, .int .u32 t451, .string t452] 24 (0, 0)) (by (with_reducible repeat (first | refine blk_drewN ?_ _ | refine blk_drew ?_ | refine blk_alloc ?_ _)); exact BK442.out) hb)
                have n2_ := Aside0.mk (below_step (by repeat (first | (with_reducible first | exact HB.out | apply below_alloc | apply pw_below_drewN | apply below_drew1 | refine below_set ?_ GE442.out) | exact HB.out)) hb)
                have z_BK470 := fun (h0_ : b 16 = true) (h1_ : b 17 = false) => (show w28.heap[gb470]? = some (.cells #[.int .i64 0, .int .i64 0, .bool false, .bool false, .int .i64 0, .int .i64 0, .int .i64 0, .int .u32 0, .int .u32 0, .string (⟨#[]⟩ : ByteArray)] 24 (0, 0)) from by first | exact (blk_below (g := gb470) (o := .cells #[.int .i64 0, .int .i64 0, .bool false, .bool false, .int .i64 0, .int .i64 0, .int .i64 0, .int .u32 0, .int .u32 0, .string (⟨#[]⟩ : ByteArray)] 24 (0, 0)) (by (with_reducible repeat (first | refine blk_drewN ?_ _ | refine blk_drew ?_ | refine blk_alloc ?_ _)); exact (Q_BK470 h0_ h1_)) hb))
                clear BK442
                clear HB
                have HO458 := n0_
                have BK442 := n1_
                have HB := n2_
                clear n0_ n1_ n2_
                clear hb ho29
                refine hK.out _ _ ⟨v457, gb470, m16_, (by rw [ha.out]; exact putSel_upk 1 hb_ rfl rfl rfl), (by (with_reducible repeat (first | refine blk_drewN ?_ _ | refine blk_drew ?_ | refine blk_alloc ?_ _)); exact BK442.out), (by repeat (first | (with_reducible first | exact HB.out | apply below_alloc | apply pw_below_drewN | apply below_drew1 | refine below_set ?_ GE442.out) | exact HB.out)), fun _ => (by (with_reducible repeat (first | apply Kd.R_alloc | apply Kd.R_drewN | apply Kd.R_drew)); exact HO458.out), z_BK470, Q_GW470, Q_GE470, Q_NB442_470, Q_NB470_442, fun h0_ => absurd ((hoff 17 (by kernel_rfl)).symm.trans h0_) (by decide), Q_X16_⟩
               refine steps_cons ?_ ?_
               ·rintro b a w' ⟨v457, gb470, m16_, ha, Q_BK442, Q_HB, Q_HO458, Q_BK470, Q_GW470, Q_GE470, Q_NB442_470, Q_NB470_442, Q_BK470_e17, Q_X16_⟩ hb_ hon hoff
                refine ⟨_, rfl, fun K hK => ?_⟩
                have e37 : a.tmps[37]? = some (v457) := by rw [ha]; exact putSel_on (e := (4, 37, v457)) 1 rfl rfl (hon 4 (by kernel_rfl)) rfl
                replace ha := Aside0.mk ha
                have BK442 := Aside0.mk Q_BK442
                have HB := Aside0.mk Q_HB
                have HO458 := Aside0.mk (Q_HO458 (hon 4 (by kernel_rfl)))
                obtain ⟨Ao5_0, co5_0, eo_⟩ := Kd.R_slice HO458.out
                subst eo_
                have hcv5_ := own_string (P := Tryd.prog) Tryd.underlying38 Tryd.underlying5 Tryd.underlying9 (Kd.own_of_R HO458.out)
                refine value_ (w1 := w') (v := .string (strOfNums y456)) (by rfl) rfl ?_ ?_
                ·go_simp
                 (try simp only [i64_w])
                 try rfl
                 all_goals ((try simp only [decide_eq_true_eq, ByteArray.size_append, ByteArray.size_extract] at *); omega)
                refine hK.out _ _ ⟨.slice Ao5_0 y456.length co5_0, gb470, m16_, (by rw [ha.out]; exact putSel_upk 2 hb_ rfl rfl rfl), Q_BK442, Q_HB, Q_HO458, Q_BK470, Q_GW470, Q_GE470, Q_NB442_470, Q_NB470_442, fun h0_ => absurd ((hoff 17 (by kernel_rfl)).symm.trans h0_) (by decide), Q_X16_⟩
               refine steps_cons ?_ ?_
               ·rintro b a w' ⟨v457, gb470, m16_, ha, Q_BK442, Q_HB, Q_HO458, Q_BK470, Q_GW470, Q_GE470, Q_NB442_470, Q_NB470_442, Q_BK470_e17, Q_X16_⟩ hb_ hon hoff
                refine ⟨_, rfl, fun K hK => ?_⟩
                have e35 : a.tmps[35]? = some (.string (t453.extract 0 (x9_7 : Int).toNat)) := by rw [ha]; exact putSel_on (e := (2, 35, .string (t453.extract 0 (x9_7 : Int).toNat))) 0 rfl rfl (hon 2 (by kernel_rfl)) rfl
                have e38 : a.tmps[38]? = some (.string (strOfNums y456)) := by rw [ha]; exact putSel_on (e := (5, 38, .string (strOfNums y456))) 2 rfl rfl (hon 5 (by kernel_rfl)) rfl
                replace ha := Aside0.mk ha
                have BK442 := Aside0.mk Q_BK442
                have HB := Aside0.mk Q_HB
                have HO458 := Aside0.mk (Q_HO458 (hon 4 (by kernel_rfl)))
                refine value_ (w1 := w') (v := .string ((t453.extract 0 (x9_7 : Int).toNat) ++ (strOfNums y456))) (by rfl) rfl ?_ ?_
                ·go_simp
                 (try simp only [i64_w])
                 try rfl
                 all_goals ((try simp only [decide_eq_true_eq, ByteArray.size_append, ByteArray.size_extract] at *); omega)
                refine hK.out _ _ ⟨v457, gb470, m16_, (by rw [ha.out]; exact putSel_upk 3 hb_ rfl rfl rfl), Q_BK442, Q_HB, Q_HO458, Q_BK470, Q_GW470, Q_GE470, Q_NB442_470, Q_NB470_442, fun h0_ => absurd ((hoff 17 (by kernel_rfl)).symm.trans h0_) (by decide), Q_X16_⟩
               refine steps_cons ?_ ?_
               ·rintro b a w' ⟨v457, gb470, m16_, ha, Q_BK442, Q_HB, Q_HO458, Q_BK470, Q_GW470, Q_GE470, Q_NB442_470, Q_NB470_442, Q_BK470_e17, Q_X16_⟩ hb_ hon hoff
                refine ⟨_, rfl, fun K hK => ?_⟩
                have e41 : a.tmps[41]? = some (.int .i64 x9_7) := by rw [ha]; exact (putSel_off rfl).trans rfl
                replace ha := Aside0.mk ha
                have BK442 := Aside0.mk Q_BK442
                have HB := Aside0.mk Q_HB
                refine value_ (w1 := w') (v := .int .i64 ji17) (by rfl) rfl ?_ ?_
                ·go_simp
                 (try simp only [i64_w])
                 try rfl
                 all_goals ((try simp only [decide_eq_true_eq, ByteArray.size_append, ByteArray.size_extract] at *); omega)
                refine hK.out _ _ ⟨v457, gb470, m16_, (by rw [ha.out]; exact putSel_upk 4 hb_ rfl rfl rfl), Q_BK442, Q_HB, Q_HO458, Q_BK470, Q_GW470, Q_GE470, Q_NB442_470, Q_NB470_442, fun h0_ => absurd ((hoff 17 (by kernel_rfl)).symm.trans h0_) (by decide), Q_X16_⟩
               refine steps_cons ?_ ?_
               ·rintro b a w' ⟨v457, gb470, m16_, ha, Q_BK442, Q_HB, Q_HO458, Q_BK470, Q_GW470, Q_GE470, Q_NB442_470, Q_NB470_442, Q_BK470_e17, Q_X16_⟩ hb_ hon hoff
                refine ⟨_, rfl, fun K hK => ?_⟩
                have e40 : a.tmps[40]? = some (.string t453) := by rw [ha]; exact (putSel_off rfl).trans rfl
                have e42 : a.tmps[42]? = some (.int .i64 ji17) := by rw [ha]; exact putSel_on (e := (9, 42, .int .i64 ji17)) 4 rfl rfl (hon 9 (by kernel_rfl)) rfl
                replace ha := Aside0.mk ha
                have BK442 := Aside0.mk Q_BK442
                have HB := Aside0.mk Q_HB
                refine value_ (w1 := w') (v := .string (t453.extract ((ji17) : Int).toNat t453.size)) (by rfl) rfl ?_ ?_
                ·go_simp
                 (try simp only [i64_w])
                 try rfl
                 all_goals ((try simp only [decide_eq_true_eq, ByteArray.size_append, ByteArray.size_extract] at *); omega)
                refine hK.out _ _ ⟨v457, gb470, m16_, (by rw [ha.out]; exact putSel_upk 5 hb_ rfl rfl rfl), Q_BK442, Q_HB, Q_HO458, Q_BK470, Q_GW470, Q_GE470, Q_NB442_470, Q_NB470_442, fun h0_ => absurd ((hoff 17 (by kernel_rfl)).symm.trans h0_) (by decide), Q_X16_⟩
               refine steps_cons ?_ ?_
               ·rintro b a w' ⟨v457, gb470, m16_, ha, Q_BK442, Q_HB, Q_HO458, Q_BK470, Q_GW470, Q_GE470, Q_NB442_470, Q_NB470_442, Q_BK470_e17, Q_X16_⟩ hb_ hon hoff
                refine ⟨_, rfl, fun K hK => ?_⟩
                have e39 : a.tmps[39]? = some (.string ((t453.extract 0 (x9_7 : Int).toNat) ++ (strOfNums y456))) := by rw [ha]; exact putSel_on (e := (6, 39, .string ((t453.extract 0 (x9_7 : Int).toNat) ++ (strOfNums y456)))) 3 rfl rfl (hon 6 (by kernel_rfl)) rfl
                have e43 : a.tmps[43]? = some (.string (t453.extract ((ji17) : Int).toNat t453.size)) := by rw [ha]; exact putSel_on (e := (10, 43, .string (t453.extract ((ji17) : Int).toNat t453.size))) 5 rfl rfl (hon 10 (by kernel_rfl)) rfl
                replace ha := Aside0.mk ha
                have BK442 := Aside0.mk Q_BK442
                have HB := Aside0.mk Q_HB
                have HO458 := Aside0.mk (Q_HO458 (hon 4 (by kernel_rfl)))
                refine value_ (w1 := w') (v := .string (((t453.extract 0 (x9_7 : Int).toNat) ++ (strOfNums y456)) ++ (t453.extract ((ji17) : Int).toNat t453.size))) (by rfl) rfl ?_ ?_
                ·go_simp
                 (try simp only [i64_w])
                 try rfl
                 all_goals ((try simp only [decide_eq_true_eq, ByteArray.size_append, ByteArray.size_extract] at *); omega)
                refine hK.out _ _ ⟨v457, gb470, m16_, (by rw [ha.out]; exact putSel_upk 6 hb_ rfl rfl rfl), Q_BK442, Q_HB, Q_HO458, Q_BK470, Q_GW470, Q_GE470, Q_NB442_470, Q_NB470_442, fun h0_ => absurd ((hoff 17 (by kernel_rfl)).symm.trans h0_) (by decide), Q_X16_⟩
               refine steps_cons ?_ ?_
               ·rintro b a w' ⟨v457, gb470, m16_, ha, Q_BK442, Q_HB, Q_HO458, Q_BK470, Q_GW470, Q_GE470, Q_NB442_470, Q_NB470_442, Q_BK470_e17, Q_X16_⟩ hb_ hon hoff
                refine ⟨_, rfl, fun K hK => ?_⟩
                have e44 : a.tmps[44]? = some (.string (((t453.extract 0 (x9_7 : Int).toNat) ++ (strOfNums y456)) ++ (t453.extract ((ji17) : Int).toNat t453.size))) := by rw [ha]; exact putSel_on (e := (11, 44, .string (((t453.extract 0 (x9_7 : Int).toNat) ++ (strOfNums y456)) ++ (t453.extract ((ji17) : Int).toNat t453.size)))) 6 rfl rfl (hon 11 (by kernel_rfl)) rfl
                replace ha := Aside0.mk ha
                have BK442 := Aside0.mk Q_BK442
                have HB := Aside0.mk Q_HB
                have HO458 := Aside0.mk (Q_HO458 (hon 4 (by kernel_rfl)))
                refine goes_ Tryd.func16 (by kernel_rfl) rfl #[.string (((t453.extract 0 (x9_7 : Int).toNat) ++ (strOfNums y456)) ++ (t453.extract ((ji17) : Int).toNat t453.size))] (by first | rfl | exact wanted_on rfl rfl rfl (by first | rfl | (simp [*]; done) | (simp [*, IntKind.wrap_u32]; done))) rfl rfl (by (try simp only [List.map_toArray, List.map_cons, List.map_nil]); first | done | (simp only [hji17]; rfl) | rfl | (simp only [Act.eval, Array.getD_eq_getD_getElem?, e44, Option.getD_some]; done) | (simp only [List.length_drop, List.length_take]; rfl)) ?_
                with_reducible refine (inet_Parse.calls kj7 (((t453.extract 0 (x9_7 : Int).toNat) ++ (strOfNums y456)) ++ (t453.extract ((ji17) : Int).toNat t453.size)) t459 t460 t461 t462 t463 t464 t465 t466 t467 t468 t469 _ ?sideL A21.out).mono ?_
                case sideL => exact laid_below HLD.out (by repeat (first | (with_reducible first | exact HB.out | apply below_alloc | apply pw_below_drewN | apply below_drew1 | refine below_set ?_ GE442.out) | exact HB.out))
                rintro e w31 ⟨rfl, hb⟩
                refine ⟨_, rfl, ?_⟩
                have n0_ := Aside0.mk (Kd.R_below (by (with_reducible repeat (first | apply Kd.R_alloc | apply Kd.R_drewN | apply Kd.R_drew)); exact HO458.out) hb)
                have n1_ := Aside0.mk (blk_below (g := gb442) (o := .cells #[.int .i64 t443, .int .i64 t444, .bool t445, .bool t446, .int .i64 t447, .int .i64 t448, .int .i64 t449, .int .u32 t450, .int .u32 t451, .string t452] 24 (0, 0)) (by (with_reducible repeat (first | refine blk_drewN ?_ _ | refine blk_drew ?_ | refine blk_alloc ?_ _)); exact BK442.out) hb)
                have n2_ := Aside0.mk (below_step (by repeat (first | (with_reducible first | exact HB.out | apply below_alloc | apply pw_below_drewN | apply below_drew1 | refine below_set ?_ GE442.out) | exact HB.out)) hb)
                have z_BK470 := fun (h0_ : b 16 = true) (h1_ : b 17 = false) => (show w31.heap[gb470]? = some (.cells #[.int .i64 0, .int .i64 0, .bool false, .bool false, .int .i64 0, .int .i64 0, .int .i64 0, .int .u32 0, .int .u32 0, .string (⟨#[]⟩ : ByteArray)] 24 (0, 0)) from by first | exact (blk_below (g := gb470) (o := .cells #[.int .i64 0, .int .i64 0, .bool false, .bool false, .int .i64 0, .int .i64 0, .int .i64 0, .int .u32 0, .int .u32 0, .string (⟨#[]⟩ : ByteArray)] 24 (0, 0)) (by (with_reducible repeat (first | refine blk_drewN ?_ _ | refine blk_drew ?_ | refine blk_alloc ?_ _)); exact (Q_BK470 h0_ h1_)) hb))
                clear HO458
                clear BK442
                clear HB
                have HO458 := n0_
                have BK442 := n1_
                have HB := n2_
                clear n0_ n1_ n2_
                (try clear hb)
                (try clear hb2)
                (try clear hk)
                (try clear hi)
                refine hK.out _ _ ⟨v457, gb470, m16_, (by rw [ha.out]; exact putSel_upk 7 hb_ rfl rfl rfl), (by (with_reducible repeat (first | refine blk_drewN ?_ _ | refine blk_drew ?_ | refine blk_alloc ?_ _)); exact BK442.out), (by repeat (first | (with_reducible first | exact HB.out | apply below_alloc | apply pw_below_drewN | apply below_drew1 | refine below_set ?_ GE442.out) | exact HB.out)), fun _ => (by (with_reducible repeat (first | apply Kd.R_alloc | apply Kd.R_drewN | apply Kd.R_drew)); exact HO458.out), z_BK470, Q_GW470, Q_GE470, Q_NB442_470, Q_NB470_442, fun h0_ => absurd ((hoff 17 (by kernel_rfl)).symm.trans h0_) (by decide), Q_X16_⟩
               refine steps_cons ?_ ?_
               ·rintro b a w' ⟨v457, gb470, m16_, ha, Q_BK442, Q_HB, Q_HO458, Q_BK470, Q_GW470, Q_GE470, Q_NB442_470, Q_NB470_442, Q_BK470_e17, Q_X16_⟩ hb_ hon hoff
                refine ⟨_, rfl, fun K hK => ?_⟩
                have e45 : a.tmps[45]? = some (.tuple #[.agg #[.int .i64 t459, .int .i64 t460, .bool t461, .bool t462, .int .i64 t463, .int .i64 t464, .int .i64 t465, .int .u32 t466, .int .u32 t467, .string t468], .int .i64 t469]) := by rw [ha]; exact putSel_on (e := (12, 45, .tuple #[.agg #[.int .i64 t459, .int .i64 t460, .bool t461, .bool t462, .int .i64 t463, .int .i64 t464, .int .i64 t465, .int .u32 t466, .int .u32 t467, .string t468], .int .i64 t469])) 7 rfl rfl (hon 12 (by kernel_rfl)) rfl
                replace ha := Aside0.mk ha
                have BK442 := Aside0.mk Q_BK442
                have HB := Aside0.mk Q_HB
                have HO458 := Aside0.mk (Q_HO458 (hon 4 (by kernel_rfl)))
                refine value_ (w1 := w') (v := .tuple #[.agg #[.int .i64 t459, .int .i64 t460, .bool t461, .bool t462, .int .i64 t463, .int .i64 t464, .int .i64 t465, .int .u32 t466, .int .u32 t467, .string t468], .int .i64 t469]) (by rfl) rfl ?_ ?_
                ·go_simp
                 (try simp only [i64_w])
                 try rfl
                 all_goals ((try simp only [decide_eq_true_eq, ByteArray.size_append, ByteArray.size_extract] at *); omega)
                refine hK.out _ _ ⟨v457, gb470, m16_, (by rw [ha.out]; exact putSel_upk 8 hb_ rfl rfl rfl), Q_BK442, Q_HB, Q_HO458, Q_BK470, Q_GW470, Q_GE470, Q_NB442_470, Q_NB470_442, fun h0_ => absurd ((hoff 17 (by kernel_rfl)).symm.trans h0_) (by decide), Q_X16_⟩
               refine steps_cons ?_ ?_
               ·rintro b a w' ⟨v457, gb470, m16_, ha, Q_BK442, Q_HB, Q_HO458, Q_BK470, Q_GW470, Q_GE470, Q_NB442_470, Q_NB470_442, Q_BK470_e17, Q_X16_⟩ hb_ hon hoff
                refine ⟨_, rfl, fun K hK => ?_⟩
                have e32 : a.tmps[32]? = some (.tuple #[.agg #[.int .i64 t459, .int .i64 t460, .bool t461, .bool t462, .int .i64 t463, .int .i64 t464, .int .i64 t465, .int .u32 t466, .int .u32 t467, .string t468], .int .i64 t469]) := by rw [ha]; exact putSel_on (e := (13, 32, .tuple #[.agg #[.int .i64 t459, .int .i64 t460, .bool t461, .bool t462, .int .i64 t463, .int .i64 t464, .int .i64 t465, .int .u32 t466, .int .u32 t467, .string t468], .int .i64 t469])) 8 rfl rfl (hon 13 (by kernel_rfl)) rfl
                replace ha := Aside0.mk ha
                have BK442 := Aside0.mk Q_BK442
                have HB := Aside0.mk Q_HB
                have HO458 := Aside0.mk (Q_HO458 (hon 4 (by kernel_rfl)))
                refine value_ (w1 := w') (v := .agg #[.int .i64 t459, .int .i64 t460, .bool t461, .bool t462, .int .i64 t463, .int .i64 t464, .int .i64 t465, .int .u32 t466, .int .u32 t467, .string t468]) (by rfl) rfl ?_ ?_
                ·go_simp
                 (try simp only [i64_w])
                 try rfl
                 all_goals ((try simp only [decide_eq_true_eq, ByteArray.size_append, ByteArray.size_extract] at *); omega)
                refine hK.out _ _ ⟨v457, gb470, m16_, (by rw [ha.out]; exact putSel_upk 9 hb_ rfl rfl rfl), Q_BK442, Q_HB, Q_HO458, Q_BK470, Q_GW470, Q_GE470, Q_NB442_470, Q_NB470_442, fun h0_ => absurd ((hoff 17 (by kernel_rfl)).symm.trans h0_) (by decide), Q_X16_⟩
               refine steps_cons ?_ ?_
               ·rintro b a w' ⟨v457, gb470, m16_, ha, Q_BK442, Q_HB, Q_HO458, Q_BK470, Q_GW470, Q_GE470, Q_NB442_470, Q_NB470_442, Q_BK470_e17, Q_X16_⟩ hb_ hon hoff
                refine ⟨_, rfl, fun K hK => ?_⟩
                have e32 : a.tmps[32]? = some (.tuple #[.agg #[.int .i64 t459, .int .i64 t460, .bool t461, .bool t462, .int .i64 t463, .int .i64 t464, .int .i64 t465, .int .u32 t466, .int .u32 t467, .string t468], .int .i64 t469]) := by rw [ha]; exact putSel_on (e := (13, 32, .tuple #[.agg #[.int .i64 t459, .int .i64 t460, .bool t461, .bool t462, .int .i64 t463, .int .i64 t464, .int .i64 t465, .int .u32 t466, .int .u32 t467, .string t468], .int .i64 t469])) 8 rfl rfl (hon 13 (by kernel_rfl)) rfl
                replace ha := Aside0.mk ha
                have BK442 := Aside0.mk Q_BK442
                have HB := Aside0.mk Q_HB
                have HO458 := Aside0.mk (Q_HO458 (hon 4 (by kernel_rfl)))
                refine value_ (w1 := w') (v := .int .i64 t469) (by rfl) rfl ?_ ?_
                ·go_simp
                 (try simp only [i64_w])
                 try rfl
                 all_goals ((try simp only [decide_eq_true_eq, ByteArray.size_append, ByteArray.size_extract] at *); omega)
                refine hK.out _ _ ⟨v457, gb470, m16_, (by rw [ha.out]; exact putSel_upk 10 hb_ rfl rfl rfl), Q_BK442, Q_HB, Q_HO458, Q_BK470, Q_GW470, Q_GE470, Q_NB442_470, Q_NB470_442, Q_BK470_e17, Q_X16_⟩
               refine steps_cons ?_ ?_
               ·rintro b a w' ⟨v457, gb470, m16_, ha, Q_BK442, Q_HB, Q_HO458, Q_BK470, Q_GW470, Q_GE470, Q_NB442_470, Q_NB470_442, Q_BK470_e17, Q_X16_⟩ hb_ hon hoff
                refine ⟨_, rfl, fun K hK => ?_⟩
                replace ha := Aside0.mk ha
                have BK442 := Aside0.mk Q_BK442
                have HB := Aside0.mk Q_HB
                refine box_step ?hg (N := 10) ?hd (cs := #[.int .i64 0, .int .i64 0, .bool false, .bool false, .int .i64 0, .int .i64 0, .int .i64 0, .int .u32 0, .int .u32 0, .string (⟨#[]⟩ : ByteArray)]) (t := 24) ?hr ?_; (case hd => rfl); (case hg => rfl); (case hr => first | (go_simp; done) | (go_simp; rfl))
                intro gb470 hg w28 hbox hb
                have n0_ := Aside0.mk (blk_below (g := gb442) (o := .cells #[.int .i64 t443, .int .i64 t444, .bool t445, .bool t446, .int .i64 t447, .int .i64 t448, .int .i64 t449, .int .u32 t450, .int .u32 t451, .string t452] 24 (0, 0)) (by (with_reducible repeat (first | refine blk_drewN ?_ _ | refine blk_drew ?_ | refine blk_alloc ?_ _)); exact BK442.out) hb)
                have n1_ := Aside0.mk (below_step (by repeat (first | (with_reducible first | exact HB.out | apply below_alloc | apply pw_below_drewN | apply below_drew1 | refine below_set ?_ GE442.out) | exact HB.out)) hb)
                have n2_ := Aside0.mk (hbox)
                have n3_ := Aside0.mk ((by rw [hg]; exact (below_size (by repeat (first | (with_reducible first | exact HB.out | apply below_alloc | apply pw_below_drewN | apply below_drew1 | refine below_set ?_ GE442.out) | exact HB.out))) : w.heap.size ≤ gb470))
                have n4_ := Aside0.mk ((by rw [hg]; exact (below_size (by repeat (first | (with_reducible first | exact HB.out | apply below_alloc | apply pw_below_drewN | apply below_drew1 | refine below_set ?_ GE442.out) | exact HB.out))) : w.heap.size ≤ gb470))
                have n5_ := Aside0.mk ((by rw [hg]; exact Nat.ne_of_lt (blk_lt (g := gb442) (o := .cells #[.int .i64 t443, .int .i64 t444, .bool t445, .bool t446, .int .i64 t447, .int .i64 t448, .int .i64 t449, .int .u32 t450, .int .u32 t451, .string t452] 24 (0, 0)) (by (with_reducible repeat (first | refine blk_drewN ?_ _ | refine blk_drew ?_ | refine blk_alloc ?_ _)); exact BK442.out)) : gb442 ≠ gb470))
                have n6_ := Aside0.mk ((by rw [hg]; exact Nat.ne_of_gt (blk_lt (g := gb442) (o := .cells #[.int .i64 t443, .int .i64 t444, .bool t445, .bool t446, .int .i64 t447, .int .i64 t448, .int .i64 t449, .int .u32 t450, .int .u32 t451, .string t452] 24 (0, 0)) (by (with_reducible repeat (first | refine blk_drewN ?_ _ | refine blk_drew ?_ | refine blk_alloc ?_ _)); exact BK442.out)) : gb470 ≠ gb442))
                have z_HO458 := fun (h0_ : b 4 = true) => (show Kd.R (Kd.int .u8) 5 w28 w.heap.size (fun _ => True) v457 y456 from by first | exact (Kd.R_below (by (with_reducible repeat (first | apply Kd.R_alloc | apply Kd.R_drewN | apply Kd.R_drew)); exact (Q_HO458 h0_)) hb) | exact Kd.R_mono (Kd.R_below (by (with_reducible repeat (first | apply Kd.R_alloc | apply Kd.R_drewN | apply Kd.R_drew)); exact (Q_HO458 h0_)) hb) (fun _ h_ => by first | trivial | exact h_ | exact h_.1))
                clear BK442
                clear HB
                have BK442 := n0_
                have HB := n1_
                have BK470 := n2_
                have GW470 := n3_
                have GE470 := n4_
                have NB442_470 := n5_
                have NB470_442 := n6_
                clear n0_ n1_ n2_ n3_ n4_ n5_ n6_
                clear hb hbox hg
                refine hK.out _ _ ⟨v457, gb470, (.pointer (some ⟨gb470, 0, none⟩)), (by rw [ha.out]; exact putSel_upk 11 hb_ rfl rfl rfl), (by (with_reducible repeat (first | refine blk_drewN ?_ _ | refine blk_drew ?_ | refine blk_alloc ?_ _)); exact BK442.out), (by repeat (first | (with_reducible first | exact HB.out | apply below_alloc | apply pw_below_drewN | apply below_drew1 | refine below_set ?_ GE442.out | refine below_set ?_ GE470.out) | exact HB.out)), z_HO458, fun _ _ => (by (with_reducible repeat (first | refine blk_drewN ?_ _ | refine blk_drew ?_ | refine blk_alloc ?_ _)); exact BK470.out), fun _ => GW470.out, fun _ => GE470.out, fun _ => NB442_470.out, fun _ => NB470_442.out, fun h0_ => absurd ((hoff 17 (by kernel_rfl)).symm.trans h0_) (by decide), fun _ => rfl⟩
               refine steps_cons ?_ ?_
               ·rintro b a w' ⟨v457, gb470, m16_, ha, Q_BK442, Q_HB, Q_HO458, Q_BK470, Q_GW470, Q_GE470, Q_NB442_470, Q_NB470_442, Q_BK470_e17, Q_X16_⟩ hb_ hon hoff
                refine ⟨_, rfl, fun K hK => ?_⟩
                have e10 : a.tmps[10]? = some (m16_) := by rw [ha]; exact putSel_on (e := (16, 10, m16_)) 11 rfl rfl (hon 16 (by kernel_rfl)) rfl
                rw [Q_X16_ (hon 16 (by kernel_rfl))] at e10
                have e46 : a.tmps[46]? = some (.agg #[.int .i64 t459, .int .i64 t460, .bool t461, .bool t462, .int .i64 t463, .int .i64 t464, .int .i64 t465, .int .u32 t466, .int .u32 t467, .string t468]) := by rw [ha]; exact putSel_on (e := (14, 46, .agg #[.int .i64 t459, .int .i64 t460, .bool t461, .bool t462, .int .i64 t463, .int .i64 t464, .int .i64 t465, .int .u32 t466, .int .u32 t467, .string t468])) 9 rfl rfl (hon 14 (by kernel_rfl)) rfl
                replace ha := Aside0.mk ha
                have BK442 := Aside0.mk Q_BK442
                have HB := Aside0.mk Q_HB
                have HO458 := Aside0.mk (Q_HO458 (hon 4 (by kernel_rfl)))
                have BK470 := Aside0.mk (Q_BK470 (hon 16 (by kernel_rfl)) hb_)
                have GW470 := Aside0.mk (Q_GW470 (hon 16 (by kernel_rfl)))
                have GE470 := Aside0.mk (Q_GE470 (hon 16 (by kernel_rfl)))
                have NB442_470 := Aside0.mk (Q_NB442_470 (hon 16 (by kernel_rfl)))
                have NB470_442 := Aside0.mk (Q_NB470_442 (hon 16 (by kernel_rfl)))
                have hs33 : w'.cell? ⟨gb470, 0, none⟩ = some (.int .i64 0) := (blk_cell BK470.out 0).trans rfl
                have hfs33 := blk_frozen BK470.out 0
                have hns33_0 := NB442_470.out
                have hms33_0 := NB470_442.out
                have hs34 : w'.cell? ⟨gb470, 1, none⟩ = some (.int .i64 0) := (blk_cell BK470.out 1).trans rfl
                have hfs34 := blk_frozen BK470.out 1
                have hns34_0 := NB442_470.out
                have hms34_0 := NB470_442.out
                have hs35 : w'.cell? ⟨gb470, 2, none⟩ = some (.bool false) := (blk_cell BK470.out 2).trans rfl
                have hfs35 := blk_frozen BK470.out 2
                have hns35_0 := NB442_470.out
                have hms35_0 := NB470_442.out
                have hs36 : w'.cell? ⟨gb470, 3, none⟩ = some (.bool false) := (blk_cell BK470.out 3).trans rfl
                have hfs36 := blk_frozen BK470.out 3
                have hns36_0 := NB442_470.out
                have hms36_0 := NB470_442.out
                have hs37 : w'.cell? ⟨gb470, 4, none⟩ = some (.int .i64 0) := (blk_cell BK470.out 4).trans rfl
                have hfs37 := blk_frozen BK470.out 4
                have hns37_0 := NB442_470.out
                have hms37_0 := NB470_442.out
                have hs38 : w'.cell? ⟨gb470, 5, none⟩ = some (.int .i64 0) := (blk_cell BK470.out 5).trans rfl
                have hfs38 := blk_frozen BK470.out 5
                have hns38_0 := NB442_470.out
                have hms38_0 := NB470_442.out
                have hs39 : w'.cell? ⟨gb470, 6, none⟩ = some (.int .i64 0) := (blk_cell BK470.out 6).trans rfl
                have hfs39 := blk_frozen BK470.out 6
                have hns39_0 := NB442_470.out
                have hms39_0 := NB470_442.out
                have hs40 : w'.cell? ⟨gb470, 7, none⟩ = some (.int .u32 0) := (blk_cell BK470.out 7).trans rfl
                have hfs40 := blk_frozen BK470.out 7
                have hns40_0 := NB442_470.out
                have hms40_0 := NB470_442.out
                have hs41 : w'.cell? ⟨gb470, 8, none⟩ = some (.int .u32 0) := (blk_cell BK470.out 8).trans rfl
                have hfs41 := blk_frozen BK470.out 8
                have hns41_0 := NB442_470.out
                have hms41_0 := NB470_442.out
                have hs42 : w'.cell? ⟨gb470, 9, none⟩ = some (.string (⟨#[]⟩ : ByteArray)) := (blk_cell BK470.out 9).trans rfl
                have hfs42 := blk_frozen BK470.out 9
                have hns42_0 := NB442_470.out
                have hms42_0 := NB470_442.out
                refine skip_ (w1 := ?_) (by rfl) rfl ?_ ?_
                rotate_left
                ·go_simp
                 rfl
                refine hK.out _ _ ⟨v457, gb470, m16_, (by rw [ha.out]; exact putSel_none (v := undef) rfl), (by (with_reducible repeat (first | refine blk_drewN ?_ _ | refine blk_drew ?_ | refine blk_alloc ?_ _)); refine blk_far ?_ NB442_470.out _; (with_reducible repeat (first | refine blk_drewN ?_ _ | refine blk_drew ?_ | refine blk_alloc ?_ _)); refine blk_far ?_ NB442_470.out _; (with_reducible repeat (first | refine blk_drewN ?_ _ | refine blk_drew ?_ | refine blk_alloc ?_ _)); refine blk_far ?_ NB442_470.out _; (with_reducible repeat (first | refine blk_drewN ?_ _ | refine blk_drew ?_ | refine blk_alloc ?_ _)); refine blk_far ?_ NB442_470.out _; (with_reducible repeat (first | refine blk_drewN ?_ _ | refine blk_drew ?_ | refine blk_alloc ?_ _)); refine blk_far ?_ NB442_470.out _; (with_reducible repeat (first | refine blk_drewN ?_ _ | refine blk_drew ?_ | refine blk_alloc ?_ _)); refine blk_far ?_ NB442_470.out _; (with_reducible repeat (first | refine blk_drewN ?_ _ | refine blk_drew ?_ | refine blk_alloc ?_ _)); refine blk_far ?_ NB442_470.out _; (with_reducible repeat (first | refine blk_drewN ?_ _ | refine blk_drew ?_ | refine blk_alloc ?_ _)); refine blk_far ?_ NB442_470.out _; (with_reducible repeat (first | refine blk_drewN ?_ _ | refine blk_drew ?_ | refine blk_alloc ?_ _)); refine blk_far ?_ NB442_470.out _; (with_reducible repeat (first | refine blk_drewN ?_ _ | refine blk_drew ?_ | refine blk_alloc ?_ _)); refine blk_far ?_ NB442_470.out _; (with_reducible repeat (first | refine blk_drewN ?_ _ | refine blk_drew ?_ | refine blk_alloc ?_ _)); exact BK442.out), (by repeat (first | (with_reducible first | exact HB.out | apply below_alloc | apply pw_below_drewN | apply below_drew1 | refine below_set ?_ GE442.out | refine below_set ?_ GE470.out) | exact HB.out)), fun _ => (by (with_reducible repeat (first | apply Kd.R_alloc | apply Kd.R_drewN | apply Kd.R_drew)); exact Kd.R_mono (Kd.R_far (p := ⟨gb470, 9, none⟩) (Kd.R_far (p := ⟨gb470, 8, none⟩) (Kd.R_far (p := ⟨gb470, 7, none⟩) (Kd.R_far (p := ⟨gb470, 6, none⟩) (Kd.R_far (p := ⟨gb470, 5, none⟩) (Kd.R_far (p := ⟨gb470, 4, none⟩) (Kd.R_far (p := ⟨gb470, 3, none⟩) (Kd.R_far (p := ⟨gb470, 2, none⟩) (Kd.R_far (p := ⟨gb470, 1, none⟩) (Kd.R_far (p := ⟨gb470, 0, none⟩) (Kd.R_types HO458.out BK470.out (by decide)) (fun _ hk => by first | exact hk.2 | exact trivial | exact hk) (.int .i64 t459)) (fun _ hk => by first | exact hk.2 | exact trivial | exact hk) (.int .i64 t460)) (fun _ hk => by first | exact hk.2 | exact trivial | exact hk) (.bool t461)) (fun _ hk => by first | exact hk.2 | exact trivial | exact hk) (.bool t462)) (fun _ hk => by first | exact hk.2 | exact trivial | exact hk) (.int .i64 t463)) (fun _ hk => by first | exact hk.2 | exact trivial | exact hk) (.int .i64 t464)) (fun _ hk => by first | exact hk.2 | exact trivial | exact hk) (.int .i64 t465)) (fun _ hk => by first | exact hk.2 | exact trivial | exact hk) (.int .u32 t466)) (fun _ hk => by first | exact hk.2 | exact trivial | exact hk) (.int .u32 t467)) (fun _ hk => by first | exact hk.2 | exact trivial | exact hk) (.string t468)) (fun _ hk => trivial)), fun _ h1_ => absurd ((up_self b 17).symm.trans h1_) (by decide), fun _ => GW470.out, fun _ => GE470.out, fun _ => NB442_470.out, fun _ => NB470_442.out, fun _ => (by (with_reducible repeat (first | refine blk_drewN ?_ _ | refine blk_drew ?_ | refine blk_alloc ?_ _)); refine blk_put (cs := #[.int .i64 t459, .int .i64 t460, .bool t461, .bool t462, .int .i64 t463, .int .i64 t464, .int .i64 t465, .int .u32 t466, .int .u32 t467, .string (⟨#[]⟩ : ByteArray)]) ?_ 9 _ rfl; (with_reducible repeat (first | refine blk_drewN ?_ _ | refine blk_drew ?_ | refine blk_alloc ?_ _)); refine blk_put (cs := #[.int .i64 t459, .int .i64 t460, .bool t461, .bool t462, .int .i64 t463, .int .i64 t464, .int .i64 t465, .int .u32 t466, .int .u32 0, .string (⟨#[]⟩ : ByteArray)]) ?_ 8 _ rfl; (with_reducible repeat (first | refine blk_drewN ?_ _ | refine blk_drew ?_ | refine blk_alloc ?_ _)); refine blk_put (cs := #[.int .i64 t459, .int .i64 t460, .bool t461, .bool t462, .int .i64 t463, .int .i64 t464, .int .i64 t465, .int .u32 0, .int .u32 0, .string (⟨#[]⟩ : ByteArray)]) ?_ 7 _ rfl; (with_reducible repeat (first | refine blk_drewN ?_ _ | refine blk_drew ?_ | refine blk_alloc ?_ _)); refine blk_put (cs := #[.int .i64 t459, .int .i64 t460, .bool t461, .bool t462, .int .i64 t463, .int .i64 t464, .int .i64 0, .int .u32 0, .int .u32 0, .string (⟨#[]⟩ : ByteArray)]) ?_ 6 _ rfl; (with_reducible repeat (first | refine blk_drewN ?_ _ | refine blk_drew ?_ | refine blk_alloc ?_ _)); refine blk_put (cs := #[.int .i64 t459, .int .i64 t460, .bool t461, .bool t462, .int .i64 t463, .int .i64 0, .int .i64 0, .int .u32 0, .int .u32 0, .string (⟨#[]⟩ : ByteArray)]) ?_ 5 _ rfl; (with_reducible repeat (first | refine blk_drewN ?_ _ | refine blk_drew ?_ | refine blk_alloc ?_ _)); refine blk_put (cs := #[.int .i64 t459, .int .i64 t460, .bool t461, .bool t462, .int .i64 0, .int .i64 0, .int .i64 0, .int .u32 0, .int .u32 0, .string (⟨#[]⟩ : ByteArray)]) ?_ 4 _ rfl; (with_reducible repeat (first | refine blk_drewN ?_ _ | refine blk_drew ?_ | refine blk_alloc ?_ _)); refine blk_put (cs := #[.int .i64 t459, .int .i64 t460, .bool t461, .bool false, .int .i64 0, .int .i64 0, .int .i64 0, .int .u32 0, .int .u32 0, .string (⟨#[]⟩ : ByteArray)]) ?_ 3 _ rfl; (with_reducible repeat (first | refine blk_drewN ?_ _ | refine blk_drew ?_ | refine blk_alloc ?_ _)); refine blk_put (cs := #[.int .i64 t459, .int .i64 t460, .bool false, .bool false, .int .i64 0, .int .i64 0, .int .i64 0, .int .u32 0, .int .u32 0, .string (⟨#[]⟩ : ByteArray)]) ?_ 2 _ rfl; (with_reducible repeat (first | refine blk_drewN ?_ _ | refine blk_drew ?_ | refine blk_alloc ?_ _)); refine blk_put (cs := #[.int .i64 t459, .int .i64 0, .bool false, .bool false, .int .i64 0, .int .i64 0, .int .i64 0, .int .u32 0, .int .u32 0, .string (⟨#[]⟩ : ByteArray)]) ?_ 1 _ rfl; (with_reducible repeat (first | refine blk_drewN ?_ _ | refine blk_drew ?_ | refine blk_alloc ?_ _)); refine blk_put (cs := #[.int .i64 0, .int .i64 0, .bool false, .bool false, .int .i64 0, .int .i64 0, .int .i64 0, .int .u32 0, .int .u32 0, .string (⟨#[]⟩ : ByteArray)]) ?_ 0 _ rfl; (with_reducible repeat (first | refine blk_drewN ?_ _ | refine blk_drew ?_ | refine blk_alloc ?_ _)); exact BK470.out), Q_X16_⟩
               refine steps_cons ?_ ?_
               ·rintro b a w' ⟨v457, gb470, m16_, ha, Q_BK442, Q_HB, Q_HO458, Q_BK470, Q_GW470, Q_GE470, Q_NB442_470, Q_NB470_442, Q_BK470_e17, Q_X16_⟩ hb_ hon hoff
                refine ⟨_, rfl, fun K hK => ?_⟩
                have e47 : a.tmps[47]? = some (.int .i64 t469) := by rw [ha]; exact putSel_on (e := (15, 47, .int .i64 t469)) 10 rfl rfl (hon 15 (by kernel_rfl)) rfl
                replace ha := Aside0.mk ha
                have BK442 := Aside0.mk Q_BK442
                have HB := Aside0.mk Q_HB
                have HO458 := Aside0.mk (Q_HO458 (hon 4 (by kernel_rfl)))
                have GW470 := Aside0.mk (Q_GW470 (hon 16 (by kernel_rfl)))
                have GE470 := Aside0.mk (Q_GE470 (hon 16 (by kernel_rfl)))
                have NB442_470 := Aside0.mk (Q_NB442_470 (hon 16 (by kernel_rfl)))
                have NB470_442 := Aside0.mk (Q_NB470_442 (hon 16 (by kernel_rfl)))
                have BK470 := Aside0.mk (Q_BK470_e17 (hon 17 (by kernel_rfl)))
                refine value_ (w1 := w') (v := .int .i64 t469) (by rfl) rfl ?_ ?_
                ·go_simp
                 (try simp only [i64_w])
                 try rfl
                 all_goals ((try simp only [decide_eq_true_eq, ByteArray.size_append, ByteArray.size_extract] at *); omega)
                refine hK.out _ _ ⟨v457, gb470, m16_, (by rw [ha.out]; exact putSel_upk 12 hb_ rfl rfl rfl), Q_BK442, Q_HB, Q_HO458, fun _ h1_ => absurd ((hon 17 (by kernel_rfl)).symm.trans h1_) (by decide), Q_GW470, Q_GE470, Q_NB442_470, Q_NB470_442, Q_BK470_e17, Q_X16_⟩
               exact steps_nil
              rintro b a w42 hall ⟨v457, gb470, m16_, ha, Q_BK442, Q_HB, Q_HO458, Q_BK470, Q_GW470, Q_GE470, Q_NB442_470, Q_NB470_442, Q_BK470_e17, Q_X16_⟩
              clear BK442 HB
              have hb2_ := hall 2 (by kernel_rfl)
              have hb4_ := hall 4 (by kernel_rfl)
              have hb5_ := hall 5 (by kernel_rfl)
              have hb6_ := hall 6 (by kernel_rfl)
              have hb9_ := hall 9 (by kernel_rfl)
              have hb10_ := hall 10 (by kernel_rfl)
              have hb11_ := hall 11 (by kernel_rfl)
              have hb12_ := hall 12 (by kernel_rfl)
              have hb13_ := hall 13 (by kernel_rfl)
              have hb14_ := hall 14 (by kernel_rfl)
              have hb15_ := hall 15 (by kernel_rfl)
              have hb16_ := hall 16 (by kernel_rfl)
              have hb17_ := hall 17 (by kernel_rfl)
              have hb18_ := hall 18 (by kernel_rfl)
              subst ha
              obtain rfl := Q_X16_ hb16_
              simp only [putSel, hb2_, hb4_, hb5_, hb6_, hb9_, hb10_, hb11_, hb12_, hb13_, hb14_, hb15_, hb16_, hb17_, hb18_, if_true, Act.put, List.setIfInBounds_toArray, List.set_cons_zero, List.set_cons_succ]
              have BK442 := Aside0.mk Q_BK442
              clear Q_BK442
              have HB := Aside0.mk Q_HB
              clear Q_HB
              have HO458 := Aside0.mk (Q_HO458 hb4_)
              clear Q_HO458
              clear Q_BK470
              have GW470 := Aside0.mk (Q_GW470 hb16_)
              clear Q_GW470
              have GE470 := Aside0.mk (Q_GE470 hb16_)
              clear Q_GE470
              have NB442_470 := Aside0.mk (Q_NB442_470 hb16_)
              clear Q_NB442_470
              have NB470_442 := Aside0.mk (Q_NB470_442 hb16_)
              clear Q_NB470_442
              have BK470 := Aside0.mk (Q_BK470_e17 hb17_)
              clear Q_BK470_e17
              clear hall hb2_ hb4_ hb5_ hb6_ hb9_ hb10_ hb11_ hb12_ hb13_ hb14_ hb15_ hb16_ hb17_ hb18_
              have p23 : 0 ≤ (x9_7 : Int) := of_decide_eq_true (by first | (with_reducible assumption) | assumption)
              have q23 : x9_7 < (t453.size : Int) := of_decide_eq_true (by first | (with_reducible assumption) | assumption)
              have hx23 := bt_at t453 x9_7
              replace p23 := eq_true p23
              replace q23 := eq_true q23
              try go_wp2_with (first | (go_at_call 12; (with_reducible refine (gangwaylaw06_fixed.calls kj7  t471 _ ?sideL A26.out).mono ?_); (case sideL => exact laid_below HLD.out (by repeat (first | (with_reducible first | exact HB.out | apply below_alloc | apply pw_below_drewN | apply below_drew1 | refine below_set ?_ GE442.out | refine below_set ?_ GE470.out) | exact HB.out))); rintro e w44 ⟨rfl, hb⟩; have n0_ := Aside0.mk (Kd.R_below (by (with_reducible repeat (first | apply Kd.R_alloc | apply Kd.R_drewN | apply Kd.R_drew)); exact HO458.out) hb); have n1_ := Aside0.mk (blk_below (g := gb442) (o := .cells #[.int .i64 t443, .int .i64 t444, .bool t445, .bool t446, .int .i64 t447, .int .i64 t448, .int .i64 t449, .int .u32 t450, .int .u32 t451, .string t452] 24 (0, 0)) (by (with_reducible repeat (first | refine blk_drewN ?_ _ | refine blk_drew ?_ | refine blk_alloc ?_ _)); exact BK442.out) hb); have n2_ := Aside0.mk (blk_below (g := gb470) (o := .cells #[.int .i64 t459, .int .i64 t460, .bool t461, .bool t462, .int .i64 t463, .int .i64 t464, .int .i64 t465, .int .u32 t466, .int .u32 t467, .string t468] 24 (0, 0)) (by (with_reducible repeat (first | refine blk_drewN ?_ _ | refine blk_drew ?_ | refine blk_alloc ?_ _)); exact BK470.out) hb); have n3_ := Aside0.mk (below_step (by repeat (first | (with_reducible first | exact HB.out | apply below_alloc | apply pw_below_drewN | apply below_drew1 | refine below_set ?_ GE442.out | refine below_set ?_ GE470.out) | exact HB.out)) hb); clear HO458; clear BK442; clear BK470; clear HB; have HO458 := n0_; have BK442 := n1_; have BK470 := n2_; have HB := n3_; clear n0_ n1_ n2_ n3_; have hcy1_442_0 := (show World.cell? _ ⟨gb442, 0, none⟩ = some (.int .i64 t443) from (blk_cell BK442.out 0).trans rfl); have hcy1_442_1 := (show World.cell? _ ⟨gb442, 1, none⟩ = some (.int .i64 t444) from (blk_cell BK442.out 1).trans rfl); have hcy1_442_2 := (show World.cell? _ ⟨gb442, 2, none⟩ = some (.bool t445) from (blk_cell BK442.out 2).trans rfl); have hcy1_442_3 := (show World.cell? _ ⟨gb442, 3, none⟩ = some (.bool t446) from (blk_cell BK442.out 3).trans rfl); have hcy1_442_4 := (show World.cell? _ ⟨gb442, 4, none⟩ = some (.int .i64 t447) from (blk_cell BK442.out 4).trans rfl); have hcy1_442_5 := (show World.cell? _ ⟨gb442, 5, none⟩ = some (.int .i64 t448) from (blk_cell BK442.out 5).trans rfl); have hcy1_442_6 := (show World.cell? _ ⟨gb442, 6, none⟩ = some (.int .i64 t449) from (blk_cell BK442.out 6).trans rfl); have hcy1_442_7 := (show World.cell? _ ⟨gb442, 7, none⟩ = some (.int .u32 t450) from (blk_cell BK442.out 7).trans rfl); have hcy1_442_8 := (show World.cell? _ ⟨gb442, 8, none⟩ = some (.int .u32 t451) from (blk_cell BK442.out 8).trans rfl); have hcy1_442_9 := (show World.cell? _ ⟨gb442, 9, none⟩ = some (.string t452) from (blk_cell BK442.out 9).trans rfl); (try clear hb); (try clear hb2); (try clear hk); (try clear hi)))
              go_ret
              exact ⟨by first | rfl | (simp [errW_none, errW_some] <;> rfl) | (simp only [← hji17]; first | rfl | (simp [errW_none, errW_some] <;> rfl)) | (simp [*, errW_none, errW_some] <;> rfl) | (simp [*, IntKind.wrap_u32]; done) | (simp_all [IntKind.wrap_u32]; done), by repeat (first | (with_reducible first | exact HB.out | apply below_alloc | apply pw_below_drewN | apply below_drew1 | refine below_set ?_ GE442.out | refine below_set ?_ GE470.out) | exact HB.out)⟩
             ·rw [if_neg c25] at H
              exact absurd H (by simp)
            ·rw [if_neg c24] at H
             have c24b0 : (a2 == (bt t453 x9_7)) = false := beq_eq_false_iff_ne.mpr c24
             have c24b1 : (a2 != (bt t453 x9_7)) = true := bne_iff_ne.mpr c24
             by_cases c45 : t469 = 0
             ·rw [if_pos c45] at H
              exact absurd H (by simp)
             ·rw [if_neg c45] at H
              have c45b0 : (t469 == 0) = false := beq_eq_false_iff_ne.mpr c45
              have c45b1 : (t469 != 0) = true := bne_iff_ne.mpr c45
              replace H := Option.bind_eq_some_iff.mp H
              obtain ⟨t472, A460, H⟩ := H
              replace H : (some t472) = some r := H
              have A46 := Aside0.mk A460
              clear A460
              obtain rfl := Option.some.inj H
              try go_wp2
              have n0_ := Aside0.mk (blk_drew BK442.out)
              have n1_ := Aside0.mk (below_drew1 HB.out)
              clear BK442
              clear HB
              have BK442 := n0_
              have HB := n1_
              clear n0_ n1_
              refine start_ (n := 19) (S := fun w' => True) (ds := []) #[false, false, false, false, false, false, false, false, false, false, false, false, false, false, false, false, false, false, false] (by kernel_rfl) rfl rfl trivial (fun hHeld => ?_); refine with_tabW gangwaylaw06_InetSpoilt.tab8 gangwaylaw06_InetSpoilt.bits8 (fun HT_ HW_ => ?_)
              generalize wc.drew = w47 at BK442 HB hHeld ⊢
              refine pure_ (i := 0) (N := some 33) (v := ?_) (a' := ?_) #[true, false, false, false, false, false, false, false, false, false, false, false, false, false, false, false, false, false, false] rfl rfl (any_of HT_.out (by kernel_rfl)) (fun _ _ _ h => h) (Or.inl ⟨by rfl, ?_⟩) ?_ ?_
              rotate_left
              ·intro w'
               go_simp
               with_reducible rfl
              rotate_left
              ·simp only [Act.put, List.setIfInBounds_toArray, List.set_cons_zero, List.set_cons_succ, i64_w, i32_w]
               rfl
              refine pure_ (i := 1) (N := some 34) (v := ?_) (a' := ?_) #[true, true, false, false, false, false, false, false, false, false, false, false, false, false, false, false, false, false, false] rfl rfl (any_of HT_.out (by kernel_rfl)) (fun _ _ _ h => h) (Or.inl ⟨by rfl, ?_⟩) ?_ ?_
              rotate_left
              ·intro w'
               go_simp
               with_reducible rfl
              rotate_left
              ·simp only [Act.put, List.setIfInBounds_toArray, List.set_cons_zero, List.set_cons_succ, i64_w, i32_w]
               rfl
              refine pure_ (i := 3) (N := some 36) (v := ?_) (a' := ?_) #[true, true, false, true, false, false, false, false, false, false, false, false, false, false, false, false, false, false, false] rfl rfl (any_of HT_.out (by kernel_rfl)) (fun _ _ _ h => h) (Or.inl ⟨by rfl, ?_⟩) ?_ ?_
              rotate_left
              ·intro w'
               go_simp
               with_reducible rfl
              rotate_left
              ·simp only [Act.put, List.setIfInBounds_toArray, List.set_cons_zero, List.set_cons_succ, i64_w, i32_w]
               rfl
              refine pure_ (i := 7) (N := some 40) (v := ?_) (a' := ?_) #[true, true, false, true, false, false, false, true, false, false, false, false, false, false, false, false, false, false, false] rfl rfl (any_of HT_.out (by kernel_rfl)) (fun _ _ _ h => h) (Or.inl ⟨by rfl, ?_⟩) ?_ ?_
              rotate_left
              ·intro w'
               go_simp
               with_reducible rfl
              rotate_left
              ·simp only [Act.put, List.setIfInBounds_toArray, List.set_cons_zero, List.set_cons_succ, i64_w, i32_w]
               rfl
              refine pure_ (i := 8) (N := some 41) (v := ?_) (a' := ?_) #[true, true, false, true, false, false, false, true, true, false, false, false, false, false, false, false, false, false, false] rfl rfl (any_of HT_.out (by kernel_rfl)) (fun _ _ _ h => h) (Or.inl ⟨by rfl, ?_⟩) ?_ ?_
              rotate_left
              ·intro w'
               go_simp
               with_reducible rfl
              rotate_left
              ·simp only [Act.put, List.setIfInBounds_toArray, List.set_cons_zero, List.set_cons_succ, i64_w, i32_w]
               rfl
              refine inv_at [2, 4, 5, 6, 9, 10, 11, 12, 13, 14, 15, 16, 17, 18] (fun a0_ b a w' => ∃ (v457 : Value) (gb470 : Nat) (m16_ : Value), a = putSel a0_ b [(2, 35, .string (t453.extract 0 (x9_7 : Int).toNat)), (4, 37, v457), (5, 38, .string (strOfNums y456)), (6, 39, .string ((t453.extract 0 (x9_7 : Int).toNat) ++ (strOfNums y456))), (9, 42, .int .i64 ji17), (10, 43, .string (t453.extract ((ji17) : Int).toNat t453.size)), (11, 44, .string (((t453.extract 0 (x9_7 : Int).toNat) ++ (strOfNums y456)) ++ (t453.extract ((ji17) : Int).toNat t453.size))), (12, 45, .tuple #[.agg #[.int .i64 t459, .int .i64 t460, .bool t461, .bool t462, .int .i64 t463, .int .i64 t464, .int .i64 t465, .int .u32 t466, .int .u32 t467, .string t468], .int .i64 t469]), (13, 32, .tuple #[.agg #[.int .i64 t459, .int .i64 t460, .bool t461, .bool t462, .int .i64 t463, .int .i64 t464, .int .i64 t465, .int .u32 t466, .int .u32 t467, .string t468], .int .i64 t469]), (14, 46, .agg #[.int .i64 t459, .int .i64 t460, .bool t461, .bool t462, .int .i64 t463, .int .i64 t464, .int .i64 t465, .int .u32 t466, .int .u32 t467, .string t468]), (15, 47, .int .i64 t469), (16, 10, m16_), (18, 11, .int .i64 t469)] ∧ (w'.heap[gb442]? = some (.cells #[.int .i64 t443, .int .i64 t444, .bool t445, .bool t446, .int .i64 t447, .int .i64 t448, .int .i64 t449, .int .u32 t450, .int .u32 t451, .string t452] 24 (0, 0))) ∧ (Below w.heap.size w w') ∧ (b 4 = true → Kd.R (Kd.int .u8) 5 w' w.heap.size (fun _ => True) v457 y456) ∧ (b 16 = true → b 17 = false → w'.heap[gb470]? = some (.cells #[.int .i64 0, .int .i64 0, .bool false, .bool false, .int .i64 0, .int .i64 0, .int .i64 0, .int .u32 0, .int .u32 0, .string (⟨#[]⟩ : ByteArray)] 24 (0, 0))) ∧ (b 16 = true → w.heap.size ≤ gb470) ∧ (b 16 = true → w.heap.size ≤ gb470) ∧ (b 16 = true → gb442 ≠ gb470) ∧ (b 16 = true → gb470 ≠ gb442) ∧ (b 17 = true → w'.heap[gb470]? = some (.cells #[.int .i64 t459, .int .i64 t460, .bool t461, .bool t462, .int .i64 t463, .int .i64 t464, .int .i64 t465, .int .u32 t466, .int .u32 t467, .string t468] 24 (0, 0))) ∧ (b 16 = true → (m16_ : Value) = .pointer (some ⟨gb470, 0, none⟩))) HT_.out HW_.out (by kernel_rfl) (by kernel_rfl) ?_ ?_ ?_
              ·exact ⟨.bool false, 0, .bool false, by simp only [putSel, Bool.false_eq_true, if_false], BK442.out, HB.out, fun h_ => absurd h_ (by decide), fun h_ => absurd h_ (by decide), fun h_ => absurd h_ (by decide), fun h_ => absurd h_ (by decide), fun h_ => absurd h_ (by decide), fun h_ => absurd h_ (by decide), fun h_ => absurd h_ (by decide), fun h_ => absurd h_ (by decide)⟩
              ·skip
               clear BK442 HB
               refine steps_cons ?_ ?_
               ·rintro b a w' ⟨v457, gb470, m16_, ha, Q_BK442, Q_HB, Q_HO458, Q_BK470, Q_GW470, Q_GE470, Q_NB442_470, Q_NB470_442, Q_BK470_e17, Q_X16_⟩ hb_ hon hoff
                refine ⟨_, rfl, fun K hK => ?_⟩
                have e33 : a.tmps[33]? = some (.string t453) := by rw [ha]; exact (putSel_off rfl).trans rfl
                have e34 : a.tmps[34]? = some (.int .i64 x9_7) := by rw [ha]; exact (putSel_off rfl).trans rfl
                replace ha := Aside0.mk ha
                have BK442 := Aside0.mk Q_BK442
                have HB := Aside0.mk Q_HB
                refine value_ (w1 := w') (v := .string (t453.extract 0 (x9_7 : Int).toNat)) (by rfl) rfl ?_ ?_
                ·go_simp
                 (try simp only [i64_w])
                 try rfl
                 all_goals ((try simp only [decide_eq_true_eq, ByteArray.size_append, ByteArray.size_extract] at *); omega)
                refine hK.out _ _ ⟨v457, gb470, m16_, (by rw [ha.out]; exact putSel_upk 0 hb_ rfl rfl rfl), Q_BK442, Q_HB, Q_HO458, Q_BK470, Q_GW470, Q_GE470, Q_NB442_470, Q_NB470_442, fun h0_ => absurd ((hoff 17 (by kernel_rfl)).symm.trans h0_) (by decide), Q_X16_⟩
               refine steps_cons ?_ ?_
               ·rintro b a w' ⟨v457, gb470, m16_, ha, Q_BK442, Q_HB, Q_HO458, Q_BK470, Q_GW470, Q_GE470, Q_NB442_470, Q_NB470_442, Q_BK470_e17, Q_X16_⟩ hb_ hon hoff
                refine ⟨_, rfl, fun K hK => ?_⟩
                have e36 : a.tmps[36]? = some (.int .u8 a2) := by rw [ha]; exact (putSel_off rfl).trans rfl
                replace ha := Aside0.mk ha
                have BK442 := Aside0.mk Q_BK442
                have HB := Aside0.mk Q_HB
                refine Kd.R_lit_step (Kd.int .u8) _ 5 ?hg (N := 37) ?hd (xs := ([a2] : List Int)) (inner := [.int .u8 a2]) (ok := fun _ => True) (okp := fun _ => True) ?hr ?hp (fun _ hk => hk) trivial (Below.refl _ _) (Nat.le_refl _) (by simp) ?_; (case hd => rfl); (case hg => rfl); (case hr => first | (go_simp; done) | (go_simp; rfl)); (case hp => exact (Reps.one (show Kd.M (Kd.int .u8) _ _ _ a2 [.int .u8 a2] from rfl) (Reps.none _ _)))
                intro v457 w48 ho49 hb hg_ hnew_
                clear hg_ hnew_
                (first | rw [← Ny456.out] at ho49 | (simp only [Int.reduceToNat] at ho49; rw [← Ny456.out] at ho49))
                have n0_ := Aside0.mk (Kd.R_lower ho49 (below_size (by repeat (first | (with_reducible first | exact HB.out | apply below_alloc | apply pw_below_drewN | apply below_drew1 | refine below_set ?_ GE442.out) | exact HB.out))))
                have n1_ := Aside0.mk (blk_below (g := gb442) (o := .cells #[.int .i64 t443, .int .i64 t444, .bool t445, .bool t446, .int .i64 t447, .int .i64 t448, .int .i64 t449, .int .u32 t450, .int .u32 t451, .string t452] 24 (0, 0)) (by (with_reducible repeat (first | refine blk_drewN ?_ _ | refine blk_drew ?_ | refine blk_alloc ?_ _)); exact BK442.out) hb)
                have n2_ := Aside0.mk (below_step (by repeat (first | (with_reducible first | exact HB.out | apply below_alloc | apply pw_below_drewN | apply below_drew1 | refine below_set ?_ GE442.out) | exact HB.out)) hb)
                have z_BK470 := fun (h0_ : b 16 = true) (h1_ : b 17 = false) => (show w48.heap[gb470]? = some (.cells #[.int .i64 0, .int .i64 0, .bool false, .bool false, .int .i64 0, .int .i64 0, .int .i64 0, .int .u32 0, .int .u32 0, .string (⟨#[]⟩ : ByteArray)] 24 (0, 0)) from by first | exact (blk_below (g := gb470) (o := .cells #[.int .i64 0, .int .i64 0, .bool false, .bool false, .int .i64 0, .int .i64 0, .int .i64 0, .int .u32 0, .int .u32 0, .string (⟨#[]⟩ : ByteArray)] 24 (0, 0)) (by (with_reducible repeat (first | refine blk_drewN ?_ _ | refine blk_drew ?_ | refine blk_alloc ?_ _)); exact (Q_BK470 h0_ h1_)) hb))
                clear BK442
                clear HB
                have HO458 := n0_
                have BK442 := n1_
                have HB := n2_
                clear n0_ n1_ n2_
                clear hb ho49
                refine hK.out _ _ ⟨v457, gb470, m16_, (by rw [ha.out]; exact putSel_upk 1 hb_ rfl rfl rfl), (by (with_reducible repeat (first | refine blk_drewN ?_ _ | refine blk_drew ?_ | refine blk_alloc ?_ _)); exact BK442.out), (by repeat (first | (with_reducible first | exact HB.out | apply below_alloc | apply pw_below_drewN | apply below_drew1 | refine below_set ?_ GE442.out) | exact HB.out)), fun _ => (by (with_reducible repeat (first | apply Kd.R_alloc | apply Kd.R_drewN | apply Kd.R_drew)); exact HO458.out), z_BK470, Q_GW470, Q_GE470, Q_NB442_470, Q_NB470_442, fun h0_ => absurd ((hoff 17 (by kernel_rfl)).symm.trans h0_) (by decide), Q_X16_⟩
               refine steps_cons ?_ ?_
               ·rintro b a w' ⟨v457, gb470, m16_, ha, Q_BK442, Q_HB, Q_HO458, Q_BK470, Q_GW470, Q_GE470, Q_NB442_470, Q_NB470_442, Q_BK470_e17, Q_X16_⟩ hb_ hon hoff
                refine ⟨_, rfl, fun K hK => ?_⟩
                have e37 : a.tmps[37]? = some (v457) := by rw [ha]; exact putSel_on (e := (4, 37, v457)) 1 rfl rfl (hon 4 (by kernel_rfl)) rfl
                replace ha := Aside0.mk ha
                have BK442 := Aside0.mk Q_BK442
                have HB := Aside0.mk Q_HB
                have HO458 := Aside0.mk (Q_HO458 (hon 4 (by kernel_rfl)))
                obtain ⟨Ao5_0, co5_0, eo_⟩ := Kd.R_slice HO458.out
                subst eo_
                have hcv5_ := own_string (P := Tryd.prog) Tryd.underlying38 Tryd.underlying5 Tryd.underlying9 (Kd.own_of_R HO458.out)
                refine value_ (w1 := w') (v := .string (strOfNums y456)) (by rfl) rfl ?_ ?_
                ·go_simp
                 (try simp only [i64_w])
                 try rfl
                 all_goals ((try simp only [decide_eq_true_eq, ByteArray.size_append, ByteArray.size_extract] at *); omega)
                refine hK.out _ _ ⟨.slice Ao5_0 y456.length co5_0, gb470, m16_, (by rw [ha.out]; exact putSel_upk 2 hb_ rfl rfl rfl), Q_BK442, Q_HB, Q_HO458, Q_BK470, Q_GW470, Q_GE470, Q_NB442_470, Q_NB470_442, fun h0_ => absurd ((hoff 17 (by kernel_rfl)).symm.trans h0_) (by decide), Q_X16_⟩
               refine steps_cons ?_ ?_
               ·rintro b a w' ⟨v457, gb470, m16_, ha, Q_BK442, Q_HB, Q_HO458, Q_BK470, Q_GW470, Q_GE470, Q_NB442_470, Q_NB470_442, Q_BK470_e17, Q_X16_⟩ hb_ hon hoff
                refine ⟨_, rfl, fun K hK => ?_⟩
                have e35 : a.tmps[35]? = some (.string (t453.extract 0 (x9_7 : Int).toNat)) := by rw [ha]; exact putSel_on (e := (2, 35, .string (t453.extract 0 (x9_7 : Int).toNat))) 0 rfl rfl (hon 2 (by kernel_rfl)) rfl
                have e38 : a.tmps[38]? = some (.string (strOfNums y456)) := by rw [ha]; exact putSel_on (e := (5, 38, .string (strOfNums y456))) 2 rfl rfl (hon 5 (by kernel_rfl)) rfl
                replace ha := Aside0.mk ha
                have BK442 := Aside0.mk Q_BK442
                have HB := Aside0.mk Q_HB
                have HO458 := Aside0.mk (Q_HO458 (hon 4 (by kernel_rfl)))
                refine value_ (w1 := w') (v := .string ((t453.extract 0 (x9_7 : Int).toNat) ++ (strOfNums y456))) (by rfl) rfl ?_ ?_
                ·go_simp
                 (try simp only [i64_w])
                 try rfl
                 all_goals ((try simp only [decide_eq_true_eq, ByteArray.size_append, ByteArray.size_extract] at *); omega)
                refine hK.out _ _ ⟨v457, gb470, m16_, (by rw [ha.out]; exact putSel_upk 3 hb_ rfl rfl rfl), Q_BK442, Q_HB, Q_HO458, Q_BK470, Q_GW470, Q_GE470, Q_NB442_470, Q_NB470_442, fun h0_ => absurd ((hoff 17 (by kernel_rfl)).symm.trans h0_) (by decide), Q_X16_⟩
               refine steps_cons ?_ ?_
               ·rintro b a w' ⟨v457, gb470, m16_, ha, Q_BK442, Q_HB, Q_HO458, Q_BK470, Q_GW470, Q_GE470, Q_NB442_470, Q_NB470_442, Q_BK470_e17, Q_X16_⟩ hb_ hon hoff
                refine ⟨_, rfl, fun K hK => ?_⟩
                have e41 : a.tmps[41]? = some (.int .i64 x9_7) := by rw [ha]; exact (putSel_off rfl).trans rfl
                replace ha := Aside0.mk ha
                have BK442 := Aside0.mk Q_BK442
                have HB := Aside0.mk Q_HB
                refine value_ (w1 := w') (v := .int .i64 ji17) (by rfl) rfl ?_ ?_
                ·go_simp
                 (try simp only [i64_w])
                 try rfl
                 all_goals ((try simp only [decide_eq_true_eq, ByteArray.size_append, ByteArray.size_extract] at *); omega)
                refine hK.out _ _ ⟨v457, gb470, m16_, (by rw [ha.out]; exact putSel_upk 4 hb_ rfl rfl rfl), Q_BK442, Q_HB, Q_HO458, Q_BK470, Q_GW470, Q_GE470, Q_NB442_470, Q_NB470_442, fun h0_ => absurd ((hoff 17 (by kernel_rfl)).symm.trans h0_) (by decide), Q_X16_⟩
               refine steps_cons ?_ ?_
               ·rintro b a w' ⟨v457, gb470, m16_, ha, Q_BK442, Q_HB, Q_HO458, Q_BK470, Q_GW470, Q_GE470, Q_NB442_470, Q_NB470_442, Q_BK470_e17, Q_X16_⟩ hb_ hon hoff
                refine ⟨_, rfl, fun K hK => ?_⟩
                have e40 : a.tmps[40]? = some (.string t453) := by rw [ha]; exact (putSel_off rfl).trans rfl
                have e42 : a.tmps[42]? = some (.int .i64 ji17) := by rw [ha]; exact putSel_on (e := (9, 42, .int .i64 ji17)) 4 rfl rfl (hon 9 (by kernel_rfl)) rfl
                replace ha := Aside0.mk ha
                have BK442 := Aside0.mk Q_BK442
                have HB := Aside0.mk Q_HB
                refine value_ (w1 := w') (v := .string (t453.extract ((ji17) : Int).toNat t453.size)) (by rfl) rfl ?_ ?_
                ·go_simp
                 (try simp only [i64_w])
                 try rfl
                 all_goals ((try simp only [decide_eq_true_eq, ByteArray.size_append, ByteArray.size_extract] at *); omega)
                refine hK.out _ _ ⟨v457, gb470, m16_, (by rw [ha.out]; exact putSel_upk 5 hb_ rfl rfl rfl), Q_BK442, Q_HB, Q_HO458, Q_BK470, Q_GW470, Q_GE470, Q_NB442_470, Q_NB470_442, fun h0_ => absurd ((hoff 17 (by kernel_rfl)).symm.trans h0_) (by decide), Q_X16_⟩
               refine steps_cons ?_ ?_
               ·rintro b a w' ⟨v457, gb470, m16_, ha, Q_BK442, Q_HB, Q_HO458, Q_BK470, Q_GW470, Q_GE470, Q_NB442_470, Q_NB470_442, Q_BK470_e17, Q_X16_⟩ hb_ hon hoff
                refine ⟨_, rfl, fun K hK => ?_⟩
                have e39 : a.tmps[39]? = some (.string ((t453.extract 0 (x9_7 : Int).toNat) ++ (strOfNums y456))) := by rw [ha]; exact putSel_on (e := (6, 39, .string ((t453.extract 0 (x9_7 : Int).toNat) ++ (strOfNums y456)))) 3 rfl rfl (hon 6 (by kernel_rfl)) rfl
                have e43 : a.tmps[43]? = some (.string (t453.extract ((ji17) : Int).toNat t453.size)) := by rw [ha]; exact putSel_on (e := (10, 43, .string (t453.extract ((ji17) : Int).toNat t453.size))) 5 rfl rfl (hon 10 (by kernel_rfl)) rfl
                replace ha := Aside0.mk ha
                have BK442 := Aside0.mk Q_BK442
                have HB := Aside0.mk Q_HB
                have HO458 := Aside0.mk (Q_HO458 (hon 4 (by kernel_rfl)))
                refine value_ (w1 := w') (v := .string (((t453.extract 0 (x9_7 : Int).toNat) ++ (strOfNums y456)) ++ (t453.extract ((ji17) : Int).toNat t453.size))) (by rfl) rfl ?_ ?_
                ·go_simp
                 (try simp only [i64_w])
                 try rfl
                 all_goals ((try simp only [decide_eq_true_eq, ByteArray.size_append, ByteArray.size_extract] at *); omega)
                refine hK.out _ _ ⟨v457, gb470, m16_, (by rw [ha.out]; exact putSel_upk 6 hb_ rfl rfl rfl), Q_BK442, Q_HB, Q_HO458, Q_BK470, Q_GW470, Q_GE470, Q_NB442_470, Q_NB470_442, fun h0_ => absurd ((hoff 17 (by kernel_rfl)).symm.trans h0_) (by decide), Q_X16_⟩
               refine steps_cons ?_ ?_
               ·rintro b a w' ⟨v457, gb470, m16_, ha, Q_BK442, Q_HB, Q_HO458, Q_BK470, Q_GW470, Q_GE470, Q_NB442_470, Q_NB470_442, Q_BK470_e17, Q_X16_⟩ hb_ hon hoff
                refine ⟨_, rfl, fun K hK => ?_⟩
                have e44 : a.tmps[44]? = some (.string (((t453.extract 0 (x9_7 : Int).toNat) ++ (strOfNums y456)) ++ (t453.extract ((ji17) : Int).toNat t453.size))) := by rw [ha]; exact putSel_on (e := (11, 44, .string (((t453.extract 0 (x9_7 : Int).toNat) ++ (strOfNums y456)) ++ (t453.extract ((ji17) : Int).toNat t453.size)))) 6 rfl rfl (hon 11 (by kernel_rfl)) rfl
                replace ha := Aside0.mk ha
                have BK442 := Aside0.mk Q_BK442
                have HB := Aside0.mk Q_HB
                have HO458 := Aside0.mk (Q_HO458 (hon 4 (by kernel_rfl)))
                refine goes_ Tryd.func16 (by kernel_rfl) rfl #[.string (((t453.extract 0 (x9_7 : Int).toNat) ++ (strOfNums y456)) ++ (t453.extract ((ji17) : Int).toNat t453.size))] (by first | rfl | exact wanted_on rfl rfl rfl (by first | rfl | (simp [*]; done) | (simp [*, IntKind.wrap_u32]; done))) rfl rfl (by (try simp only [List.map_toArray, List.map_cons, List.map_nil]); first | done | (simp only [hji17]; rfl) | rfl | (simp only [Act.eval, Array.getD_eq_getD_getElem?, e44, Option.getD_some]; done) | (simp only [List.length_drop, List.length_take]; rfl)) ?_
                with_reducible refine (inet_Parse.calls kj7 (((t453.extract 0 (x9_7 : Int).toNat) ++ (strOfNums y456)) ++ (t453.extract ((ji17) : Int).toNat t453.size)) t459 t460 t461 t462 t463 t464 t465 t466 t467 t468 t469 _ ?sideL A21.out).mono ?_
                case sideL => exact laid_below HLD.out (by repeat (first | (with_reducible first | exact HB.out | apply below_alloc | apply pw_below_drewN | apply below_drew1 | refine below_set ?_ GE442.out) | exact HB.out))
                rintro e w51 ⟨rfl, hb⟩
                refine ⟨_, rfl, ?_⟩
                have n0_ := Aside0.mk (Kd.R_below (by (with_reducible repeat (first | apply Kd.R_alloc | apply Kd.R_drewN | apply Kd.R_drew)); exact HO458.out) hb)
                have n1_ := Aside0.mk (blk_below (g := gb442) (o := .cells #[.int .i64 t443, .int .i64 t444, .bool t445, .bool t446, .int .i64 t447, .int .i64 t448, .int .i64 t449, .int .u32 t450, .int .u32 t451, .string t452] 24 (0, 0)) (by (with_reducible repeat (first | refine blk_drewN ?_ _ | refine blk_drew ?_ | refine blk_alloc ?_ _)); exact BK442.out) hb)
                have n2_ := Aside0.mk (below_step (by repeat (first | (with_reducible first | exact HB.out | apply below_alloc | apply pw_below_drewN | apply below_drew1 | refine below_set ?_ GE442.out) | exact HB.out)) hb)
                have z_BK470 := fun (h0_ : b 16 = true) (h1_ : b 17 = false) => (show w51.heap[gb470]? = some (.cells #[.int .i64 0, .int .i64 0, .bool false, .bool false, .int .i64 0, .int .i64 0, .int .i64 0, .int .u32 0, .int .u32 0, .string (⟨#[]⟩ : ByteArray)] 24 (0, 0)) from by first | exact (blk_below (g := gb470) (o := .cells #[.int .i64 0, .int .i64 0, .bool false, .bool false, .int .i64 0, .int .i64 0, .int .i64 0, .int .u32 0, .int .u32 0, .string (⟨#[]⟩ : ByteArray)] 24 (0, 0)) (by (with_reducible repeat (first | refine blk_drewN ?_ _ | refine blk_drew ?_ | refine blk_alloc ?_ _)); exact (Q_BK470 h0_ h1_)) hb))
                clear HO458
                clear BK442
                clear HB
                have HO458 := n0_
                have BK442 := n1_
                have HB := n2_
                clear n0_ n1_ n2_
                (try clear hb)
                (try clear hb2)
                (try clear hk)
                (try clear hi)
                refine hK.out _ _ ⟨v457, gb470, m16_, (by rw [ha.out]; exact putSel_upk 7 hb_ rfl rfl rfl), (by (with_reducible repeat (first | refine blk_drewN ?_ _ | refine blk_drew ?_ | refine blk_alloc ?_ _)); exact BK442.out), (by repeat (first | (with_reducible first | exact HB.out | apply below_alloc | apply pw_below_drewN | apply below_drew1 | refine below_set ?_ GE442.out) | exact HB.out)), fun _ => (by (with_reducible repeat (first | apply Kd.R_alloc | apply Kd.R_drewN | apply Kd.R_drew)); exact HO458.out), z_BK470, Q_GW470, Q_GE470, Q_NB442_470, Q_NB470_442, fun h0_ => absurd ((hoff 17 (by kernel_rfl)).symm.trans h0_) (by decide), Q_X16_⟩
               refine steps_cons ?_ ?_
               ·rintro b a w' ⟨v457, gb470, m16_, ha, Q_BK442, Q_HB, Q_HO458, Q_BK470, Q_GW470, Q_GE470, Q_NB442_470, Q_NB470_442, Q_BK470_e17, Q_X16_⟩ hb_ hon hoff
                refine ⟨_, rfl, fun K hK => ?_⟩
                have e45 : a.tmps[45]? = some (.tuple #[.agg #[.int .i64 t459, .int .i64 t460, .bool t461, .bool t462, .int .i64 t463, .int .i64 t464, .int .i64 t465, .int .u32 t466, .int .u32 t467, .string t468], .int .i64 t469]) := by rw [ha]; exact putSel_on (e := (12, 45, .tuple #[.agg #[.int .i64 t459, .int .i64 t460, .bool t461, .bool t462, .int .i64 t463, .int .i64 t464, .int .i64 t465, .int .u32 t466, .int .u32 t467, .string t468], .int .i64 t469])) 7 rfl rfl (hon 12 (by kernel_rfl)) rfl
                replace ha := Aside0.mk ha
                have BK442 := Aside0.mk Q_BK442
                have HB := Aside0.mk Q_HB
                have HO458 := Aside0.mk (Q_HO458 (hon 4 (by kernel_rfl)))
                refine value_ (w1 := w') (v := .tuple #[.agg #[.int .i64 t459, .int .i64 t460, .bool t461, .bool t462, .int .i64 t463, .int .i64 t464, .int .i64 t465, .int .u32 t466, .int .u32 t467, .string t468], .int .i64 t469]) (by rfl) rfl ?_ ?_
                ·go_simp
                 (try simp only [i64_w])
                 try rfl
                 all_goals ((try simp only [decide_eq_true_eq, ByteArray.size_append, ByteArray.size_extract] at *); omega)
                refine hK.out _ _ ⟨v457, gb470, m16_, (by rw [ha.out]; exact putSel_upk 8 hb_ rfl rfl rfl), Q_BK442, Q_HB, Q_HO458, Q_BK470, Q_GW470, Q_GE470, Q_NB442_470, Q_NB470_442, fun h0_ => absurd ((hoff 17 (by kernel_rfl)).symm.trans h0_) (by decide), Q_X16_⟩
               refine steps_cons ?_ ?_
               ·rintro b a w' ⟨v457, gb470, m16_, ha, Q_BK442, Q_HB, Q_HO458, Q_BK470, Q_GW470, Q_GE470, Q_NB442_470, Q_NB470_442, Q_BK470_e17, Q_X16_⟩ hb_ hon hoff
                refine ⟨_, rfl, fun K hK => ?_⟩
                have e32 : a.tmps[32]? = some (.tuple #[.agg #[.int .i64 t459, .int .i64 t460, .bool t461, .bool t462, .int .i64 t463, .int .i64 t464, .int .i64 t465, .int .u32 t466, .int .u32 t467, .string t468], .int .i64 t469]) := by rw [ha]; exact putSel_on (e := (13, 32, .tuple #[.agg #[.int .i64 t459, .int .i64 t460, .bool t461, .bool t462, .int .i64 t463, .int .i64 t464, .int .i64 t465, .int .u32 t466, .int .u32 t467, .string t468], .int .i64 t469])) 8 rfl rfl (hon 13 (by kernel_rfl)) rfl
                replace ha := Aside0.mk ha
                have BK442 := Aside0.mk Q_BK442
                have HB := Aside0.mk Q_HB
                have HO458 := Aside0.mk (Q_HO458 (hon 4 (by kernel_rfl)))
                refine value_ (w1 := w') (v := .agg #[.int .i64 t459, .int .i64 t460, .bool t461, .bool t462, .int .i64 t463, .int .i64 t464, .int .i64 t465, .int .u32 t466, .int .u32 t467, .string t468]) (by rfl) rfl ?_ ?_
                ·go_simp
                 (try simp only [i64_w])
                 try rfl
                 all_goals ((try simp only [decide_eq_true_eq, ByteArray.size_append, ByteArray.size_extract] at *); omega)
                refine hK.out _ _ ⟨v457, gb470, m16_, (by rw [ha.out]; exact putSel_upk 9 hb_ rfl rfl rfl), Q_BK442, Q_HB, Q_HO458, Q_BK470, Q_GW470, Q_GE470, Q_NB442_470, Q_NB470_442, fun h0_ => absurd ((hoff 17 (by kernel_rfl)).symm.trans h0_) (by decide), Q_X16_⟩
               refine steps_cons ?_ ?_
               ·rintro b a w' ⟨v457, gb470, m16_, ha, Q_BK442, Q_HB, Q_HO458, Q_BK470, Q_GW470, Q_GE470, Q_NB442_470, Q_NB470_442, Q_BK470_e17, Q_X16_⟩ hb_ hon hoff
                refine ⟨_, rfl, fun K hK => ?_⟩
                have e32 : a.tmps[32]? = some (.tuple #[.agg #[.int .i64 t459, .int .i64 t460, .bool t461, .bool t462, .int .i64 t463, .int .i64 t464, .int .i64 t465, .int .u32 t466, .int .u32 t467, .string t468], .int .i64 t469]) := by rw [ha]; exact putSel_on (e := (13, 32, .tuple #[.agg #[.int .i64 t459, .int .i64 t460, .bool t461, .bool t462, .int .i64 t463, .int .i64 t464, .int .i64 t465, .int .u32 t466, .int .u32 t467, .string t468], .int .i64 t469])) 8 rfl rfl (hon 13 (by kernel_rfl)) rfl
                replace ha := Aside0.mk ha
                have BK442 := Aside0.mk Q_BK442
                have HB := Aside0.mk Q_HB
                have HO458 := Aside0.mk (Q_HO458 (hon 4 (by kernel_rfl)))
                refine value_ (w1 := w') (v := .int .i64 t469) (by rfl) rfl ?_ ?_
                ·go_simp
                 (try simp only [i64_w])
                 try rfl
                 all_goals ((try simp only [decide_eq_true_eq, ByteArray.size_append, ByteArray.size_extract] at *); omega)
                refine hK.out _ _ ⟨v457, gb470, m16_, (by rw [ha.out]; exact putSel_upk 10 hb_ rfl rfl rfl), Q_BK442, Q_HB, Q_HO458, Q_BK470, Q_GW470, Q_GE470, Q_NB442_470, Q_NB470_442, Q_BK470_e17, Q_X16_⟩
               refine steps_cons ?_ ?_
               ·rintro b a w' ⟨v457, gb470, m16_, ha, Q_BK442, Q_HB, Q_HO458, Q_BK470, Q_GW470, Q_GE470, Q_NB442_470, Q_NB470_442, Q_BK470_e17, Q_X16_⟩ hb_ hon hoff
                refine ⟨_, rfl, fun K hK => ?_⟩
                replace ha := Aside0.mk ha
                have BK442 := Aside0.mk Q_BK442
                have HB := Aside0.mk Q_HB
                refine box_step ?hg (N := 10) ?hd (cs := #[.int .i64 0, .int .i64 0, .bool false, .bool false, .int .i64 0, .int .i64 0, .int .i64 0, .int .u32 0, .int .u32 0, .string (⟨#[]⟩ : ByteArray)]) (t := 24) ?hr ?_; (case hd => rfl); (case hg => rfl); (case hr => first | (go_simp; done) | (go_simp; rfl))
                intro gb470 hg w48 hbox hb
                have n0_ := Aside0.mk (blk_below (g := gb442) (o := .cells #[.int .i64 t443, .int .i64 t444, .bool t445, .bool t446, .int .i64 t447, .int .i64 t448, .int .i64 t449, .int .u32 t450, .int .u32 t451, .string t452] 24 (0, 0)) (by (with_reducible repeat (first | refine blk_drewN ?_ _ | refine blk_drew ?_ | refine blk_alloc ?_ _)); exact BK442.out) hb)
                have n1_ := Aside0.mk (below_step (by repeat (first | (with_reducible first | exact HB.out | apply below_alloc | apply pw_below_drewN | apply below_drew1 | refine below_set ?_ GE442.out) | exact HB.out)) hb)
                have n2_ := Aside0.mk (hbox)
                have n3_ := Aside0.mk ((by rw [hg]; exact (below_size (by repeat (first | (with_reducible first | exact HB.out | apply below_alloc | apply pw_below_drewN | apply below_drew1 | refine below_set ?_ GE442.out) | exact HB.out))) : w.heap.size ≤ gb470))
                have n4_ := Aside0.mk ((by rw [hg]; exact (below_size (by repeat (first | (with_reducible first | exact HB.out | apply below_alloc | apply pw_below_drewN | apply below_drew1 | refine below_set ?_ GE442.out) | exact HB.out))) : w.heap.size ≤ gb470))
                have n5_ := Aside0.mk ((by rw [hg]; exact Nat.ne_of_lt (blk_lt (g := gb442) (o := .cells #[.int .i64 t443, .int .i64 t444, .bool t445, .bool t446, .int .i64 t447, .int .i64 t448, .int .i64 t449, .int .u32 t450, .int .u32 t451, .string t452] 24 (0, 0)) (by (with_reducible repeat (first | refine blk_drewN ?_ _ | refine blk_drew ?_ | refine blk_alloc ?_ _)); exact BK442.out)) : gb442 ≠ gb470))
                have n6_ := Aside0.mk ((by rw [hg]; exact Nat.ne_of_gt (blk_lt (g := gb442) (o := .cells #[.int .i64 t443, .int .i64 t444, .bool t445, .bool t446, .int .i64 t447, .int .i64 t448, .int .i64 t449, .int .u32 t450, .int .u32 t451, .string t452] 24 (0, 0)) (by (with_reducible repeat (first | refine blk_drewN ?_ _ | refine blk_drew ?_ | refine blk_alloc ?_ _)); exact BK442.out)) : gb470 ≠ gb442))
                have z_HO458 := fun (h0_ : b 4 = true) => (show Kd.R (Kd.int .u8) 5 w48 w.heap.size (fun _ => True) v457 y456 from by first | exact (Kd.R_below (by (with_reducible repeat (first | apply Kd.R_alloc | apply Kd.R_drewN | apply Kd.R_drew)); exact (Q_HO458 h0_)) hb) | exact Kd.R_mono (Kd.R_below (by (with_reducible repeat (first | apply Kd.R_alloc | apply Kd.R_drewN | apply Kd.R_drew)); exact (Q_HO458 h0_)) hb) (fun _ h_ => by first | trivial | exact h_ | exact h_.1))
                clear BK442
                clear HB
                have BK442 := n0_
                have HB := n1_
                have BK470 := n2_
                have GW470 := n3_
                have GE470 := n4_
                have NB442_470 := n5_
                have NB470_442 := n6_
                clear n0_ n1_ n2_ n3_ n4_ n5_ n6_
                clear hb hbox hg
                refine hK.out _ _ ⟨v457, gb470, (.pointer (some ⟨gb470, 0, none⟩)), (by rw [ha.out]; exact putSel_upk 11 hb_ rfl rfl rfl), (by (with_reducible repeat (first | refine blk_drewN ?_ _ | refine blk_drew ?_ | refine blk_alloc ?_ _)); exact BK442.out), (by repeat (first | (with_reducible first | exact HB.out | apply below_alloc | apply pw_below_drewN | apply below_drew1 | refine below_set ?_ GE442.out | refine below_set ?_ GE470.out) | exact HB.out)), z_HO458, fun _ _ => (by (with_reducible repeat (first | refine blk_drewN ?_ _ | refine blk_drew ?_ | refine blk_alloc ?_ _)); exact BK470.out), fun _ => GW470.out, fun _ => GE470.out, fun _ => NB442_470.out, fun _ => NB470_442.out, fun h0_ => absurd ((hoff 17 (by kernel_rfl)).symm.trans h0_) (by decide), fun _ => rfl⟩
               refine steps_cons ?_ ?_
               ·rintro b a w' ⟨v457, gb470, m16_, ha, Q_BK442, Q_HB, Q_HO458, Q_BK470, Q_GW470, Q_GE470, Q_NB442_470, Q_NB470_442, Q_BK470_e17, Q_X16_⟩ hb_ hon hoff
                refine ⟨_, rfl, fun K hK => ?_⟩
                have e10 : a.tmps[10]? = some (m16_) := by rw [ha]; exact putSel_on (e := (16, 10, m16_)) 11 rfl rfl (hon 16 (by kernel_rfl)) rfl
                rw [Q_X16_ (hon 16 (by kernel_rfl))] at e10
                have e46 : a.tmps[46]? = some (.agg #[.int .i64 t459, .int .i64 t460, .bool t461, .bool t462, .int .i64 t463, .int .i64 t464, .int .i64 t465, .int .u32 t466, .int .u32 t467, .string t468]) := by rw [ha]; exact putSel_on (e := (14, 46, .agg #[.int .i64 t459, .int .i64 t460, .bool t461, .bool t462, .int .i64 t463, .int .i64 t464, .int .i64 t465, .int .u32 t466, .int .u32 t467, .string t468])) 9 rfl rfl (hon 14 (by kernel_rfl)) rfl
                replace ha := Aside0.mk ha
                have BK442 := Aside0.mk Q_BK442
                have HB := Aside0.mk Q_HB
                have HO458 := Aside0.mk (Q_HO458 (hon 4 (by kernel_rfl)))
                have BK470 := Aside0.mk (Q_BK470 (hon 16 (by kernel_rfl)) hb_)
                have GW470 := Aside0.mk (Q_GW470 (hon 16 (by kernel_rfl)))
                have GE470 := Aside0.mk (Q_GE470 (hon 16 (by kernel_rfl)))
                have NB442_470 := Aside0.mk (Q_NB442_470 (hon 16 (by kernel_rfl)))
                have NB470_442 := Aside0.mk (Q_NB470_442 (hon 16 (by kernel_rfl)))
                have hs53 : w'.cell? ⟨gb470, 0, none⟩ = some (.int .i64 0) := (blk_cell BK470.out 0).trans rfl
                have hfs53 := blk_frozen BK470.out 0
                have hns53_0 := NB442_470.out
                have hms53_0 := NB470_442.out
                have hs54 : w'.cell? ⟨gb470, 1, none⟩ = some (.int .i64 0) := (blk_cell BK470.out 1).trans rfl
                have hfs54 := blk_frozen BK470.out 1
                have hns54_0 := NB442_470.out
                have hms54_0 := NB470_442.out
                have hs55 : w'.cell? ⟨gb470, 2, none⟩ = some (.bool false) := (blk_cell BK470.out 2).trans rfl
                have hfs55 := blk_frozen BK470.out 2
                have hns55_0 := NB442_470.out
                have hms55_0 := NB470_442.out
                have hs56 : w'.cell? ⟨gb470, 3, none⟩ = some (.bool false) := (blk_cell BK470.out 3).trans rfl
                have hfs56 := blk_frozen BK470.out 3
                have hns56_0 := NB442_470.out
                have hms56_0 := NB470_442.out
                have hs57 : w'.cell? ⟨gb470, 4, none⟩ = some (.int .i64 0) := (blk_cell BK470.out 4).trans rfl
                have hfs57 := blk_frozen BK470.out 4
                have hns57_0 := NB442_470.out
                have hms57_0 := NB470_442.out
                have hs58 : w'.cell? ⟨gb470, 5, none⟩ = some (.int .i64 0) := (blk_cell BK470.out 5).trans rfl
                have hfs58 := blk_frozen BK470.out 5
                have hns58_0 := NB442_470.out
                have hms58_0 := NB470_442.out
                have hs59 : w'.cell? ⟨gb470, 6, none⟩ = some (.int .i64 0) := (blk_cell BK470.out 6).trans rfl
                have hfs59 := blk_frozen BK470.out 6
                have hns59_0 := NB442_470.out
                have hms59_0 := NB470_442.out
                have hs60 : w'.cell? ⟨gb470, 7, none⟩ = some (.int .u32 0) := (blk_cell BK470.out 7).trans rfl
                have hfs60 := blk_frozen BK470.out 7
                have hns60_0 := NB442_470.out
                have hms60_0 := NB470_442.out
                have hs61 : w'.cell? ⟨gb470, 8, none⟩ = some (.int .u32 0) := (blk_cell BK470.out 8).trans rfl
                have hfs61 := blk_frozen BK470.out 8
                have hns61_0 := NB442_470.out
                have hms61_0 := NB470_442.out
                have hs62 : w'.cell? ⟨gb470, 9, none⟩ = some (.string (⟨#[]⟩ : ByteArray)) := (blk_cell BK470.out 9).trans rfl
                have hfs62 := blk_frozen BK470.out 9
                have hns62_0 := NB442_470.out
                have hms62_0 := NB470_442.out
                refine skip_ (w1 := ?_) (by rfl) rfl ?_ ?_
                rotate_left
                ·go_simp
                 rfl
                refine hK.out _ _ ⟨v457, gb470, m16_, (by rw [ha.out]; exact putSel_none (v := undef) rfl), (by (with_reducible repeat (first | refine blk_drewN ?_ _ | refine blk_drew ?_ | refine blk_alloc ?_ _)); refine blk_far ?_ NB442_470.out _; (with_reducible repeat (first | refine blk_drewN ?_ _ | refine blk_drew ?_ | refine blk_alloc ?_ _)); refine blk_far ?_ NB442_470.out _; (with_reducible repeat (first | refine blk_drewN ?_ _ | refine blk_drew ?_ | refine blk_alloc ?_ _)); refine blk_far ?_ NB442_470.out _; (with_reducible repeat (first | refine blk_drewN ?_ _ | refine blk_drew ?_ | refine blk_alloc ?_ _)); refine blk_far ?_ NB442_470.out _; (with_reducible repeat (first | refine blk_drewN ?_ _ | refine blk_drew ?_ | refine blk_alloc ?_ _)); refine blk_far ?_ NB442_470.out _; (with_reducible repeat (first | refine blk_drewN ?_ _ | refine blk_drew ?_ | refine blk_alloc ?_ _)); refine blk_far ?_ NB442_470.out _; (with_reducible repeat (first | refine blk_drewN ?_ _ | refine blk_drew ?_ | refine blk_alloc ?_ _)); refine blk_far ?_ NB442_470.out _; (with_reducible repeat (first | refine blk_drewN ?_ _ | refine blk_drew ?_ | refine blk_alloc ?_ _)); refine blk_far ?_ NB442_470.out _; (with_reducible repeat (first | refine blk_drewN ?_ _ | refine blk_drew ?_ | refine blk_alloc ?_ _)); refine blk_far ?_ NB442_470.out _; (with_reducible repeat (first | refine blk_drewN ?_ _ | refine blk_drew ?_ | refine blk_alloc ?_ _)); refine blk_far ?_ NB442_470.out _; (with_reducible repeat (first | refine blk_drewN ?_ _ | refine blk_drew ?_ | refine blk_alloc ?_ _)); exact BK442.out), (by repeat (first | (with_reducible first | exact HB.out | apply below_alloc | apply pw_below_drewN | apply below_drew1 | refine below_set ?_ GE442.out | refine below_set ?_ GE470.out) | exact HB.out)), fun _ => (by (with_reducible repeat (first | apply Kd.R_alloc | apply Kd.R_drewN | apply Kd.R_drew)); exact Kd.R_mono (Kd.R_far (p := ⟨gb470, 9, none⟩) (Kd.R_far (p := ⟨gb470, 8, none⟩) (Kd.R_far (p := ⟨gb470, 7, none⟩) (Kd.R_far (p := ⟨gb470, 6, none⟩) (Kd.R_far (p := ⟨gb470, 5, none⟩) (Kd.R_far (p := ⟨gb470, 4, none⟩) (Kd.R_far (p := ⟨gb470, 3, none⟩) (Kd.R_far (p := ⟨gb470, 2, none⟩) (Kd.R_far (p := ⟨gb470, 1, none⟩) (Kd.R_far (p := ⟨gb470, 0, none⟩) (Kd.R_types HO458.out BK470.out (by decide)) (fun _ hk => by first | exact hk.2 | exact trivial | exact hk) (.int .i64 t459)) (fun _ hk => by first | exact hk.2 | exact trivial | exact hk) (.int .i64 t460)) (fun _ hk => by first | exact hk.2 | exact trivial | exact hk) (.bool t461)) (fun _ hk => by first | exact hk.2 | exact trivial | exact hk) (.bool t462)) (fun _ hk => by first | exact hk.2 | exact trivial | exact hk) (.int .i64 t463)) (fun _ hk => by first | exact hk.2 | exact trivial | exact hk) (.int .i64 t464)) (fun _ hk => by first | exact hk.2 | exact trivial | exact hk) (.int .i64 t465)) (fun _ hk => by first | exact hk.2 | exact trivial | exact hk) (.int .u32 t466)) (fun _ hk => by first | exact hk.2 | exact trivial | exact hk) (.int .u32 t467)) (fun _ hk => by first | exact hk.2 | exact trivial | exact hk) (.string t468)) (fun _ hk => trivial)), fun _ h1_ => absurd ((up_self b 17).symm.trans h1_) (by decide), fun _ => GW470.out, fun _ => GE470.out, fun _ => NB442_470.out, fun _ => NB470_442.out, fun _ => (by (with_reducible repeat (first | refine blk_drewN ?_ _ | refine blk_drew ?_ | refine blk_alloc ?_ _)); refine blk_put (cs := #[.int .i64 t459, .int .i64 t460, .bool t461, .bool t462, .int .i64 t463, .int .i64 t464, .int .i64 t465, .int .u32 t466, .int .u32 t467, .string (⟨#[]⟩ : ByteArray)]) ?_ 9 _ rfl; (with_reducible repeat (first | refine blk_drewN ?_ _ | refine blk_drew ?_ | refine blk_alloc ?_ _)); refine blk_put (cs := #[.int .i64 t459, .int .i64 t460, .bool t461, .bool t462, .int .i64 t463, .int .i64 t464, .int .i64 t465, .int .u32 t466, .int .u32 0, .string (⟨#[]⟩ : ByteArray)]) ?_ 8 _ rfl; (with_reducible repeat (first | refine blk_drewN ?_ _ | refine blk_drew ?_ | refine blk_alloc ?_ _)); refine blk_put (cs := #[.int .i64 t459, .int .i64 t460, .bool t461, .bool t462, .int .i64 t463, .int .i64 t464, .int .i64 t465, .int .u32 0, .int .u32 0, .string (⟨#[]⟩ : ByteArray)]) ?_ 7 _ rfl; (with_reducible repeat (first | refine blk_drewN ?_ _ | refine blk_drew ?_ | refine blk_alloc ?_ _)); refine blk_put (cs := #[.int .i64 t459, .int .i64 t460, .bool t461, .bool t462, .int .i64 t463, .int .i64 t464, .int .i64 0, .int .u32 0, .int .u32 0, .string (⟨#[]⟩ : ByteArray)]) ?_ 6 _ rfl; (with_reducible repeat (first | refine blk_drewN ?_ _ | refine blk_drew ?_ | refine blk_alloc ?_ _)); refine blk_put (cs := #[.int .i64 t459, .int .i64 t460, .bool t461, .bool t462, .int .i64 t463, .int .i64 0, .int .i64 0, .int .u32 0, .int .u32 0, .string (⟨#[]⟩ : ByteArray)]) ?_ 5 _ rfl; (with_reducible repeat (first | refine blk_drewN ?_ _ | refine blk_drew ?_ | refine blk_alloc ?_ _)); refine blk_put (cs := #[.int .i64 t459, .int .i64 t460, .bool t461, .bool t462, .int .i64 0, .int .i64 0, .int .i64 0, .int .u32 0, .int .u32 0, .string (⟨#[]⟩ : ByteArray)]) ?_ 4 _ rfl; (with_reducible repeat (first | refine blk_drewN ?_ _ | refine blk_drew ?_ | refine blk_alloc ?_ _)); refine blk_put (cs := #[.int .i64 t459, .int .i64 t460, .bool t461, .bool false, .int .i64 0, .int .i64 0, .int .i64 0, .int .u32 0, .int .u32 0, .string (⟨#[]⟩ : ByteArray)]) ?_ 3 _ rfl; (with_reducible repeat (first | refine blk_drewN ?_ _ | refine blk_drew ?_ | refine blk_alloc ?_ _)); refine blk_put (cs := #[.int .i64 t459, .int .i64 t460, .bool false, .bool false, .int .i64 0, .int .i64 0, .int .i64 0, .int .u32 0, .int .u32 0, .string (⟨#[]⟩ : ByteArray)]) ?_ 2 _ rfl; (with_reducible repeat (first | refine blk_drewN ?_ _ | refine blk_drew ?_ | refine blk_alloc ?_ _)); refine blk_put (cs := #[.int .i64 t459, .int .i64 0, .bool false, .bool false, .int .i64 0, .int .i64 0, .int .i64 0, .int .u32 0, .int .u32 0, .string (⟨#[]⟩ : ByteArray)]) ?_ 1 _ rfl; (with_reducible repeat (first | refine blk_drewN ?_ _ | refine blk_drew ?_ | refine blk_alloc ?_ _)); refine blk_put (cs := #[.int .i64 0, .int .i64 0, .bool false, .bool false, .int .i64 0, .int .i64 0, .int .i64 0, .int .u32 0, .int .u32 0, .string (⟨#[]⟩ : ByteArray)]) ?_ 0 _ rfl; (with_reducible repeat (first | refine blk_drewN ?_ _ | refine blk_drew ?_ | refine blk_alloc ?_ _)); exact BK470.out), Q_X16_⟩
               refine steps_cons ?_ ?_
               ·rintro b a w' ⟨v457, gb470, m16_, ha, Q_BK442, Q_HB, Q_HO458, Q_BK470, Q_GW470, Q_GE470, Q_NB442_470, Q_NB470_442, Q_BK470_e17, Q_X16_⟩ hb_ hon hoff
                refine ⟨_, rfl, fun K hK => ?_⟩
                have e47 : a.tmps[47]? = some (.int .i64 t469) := by rw [ha]; exact putSel_on (e := (15, 47, .int .i64 t469)) 10 rfl rfl (hon 15 (by kernel_rfl)) rfl
                replace ha := Aside0.mk ha
                have BK442 := Aside0.mk Q_BK442
                have HB := Aside0.mk Q_HB
                have HO458 := Aside0.mk (Q_HO458 (hon 4 (by kernel_rfl)))
                have GW470 := Aside0.mk (Q_GW470 (hon 16 (by kernel_rfl)))
                have GE470 := Aside0.mk (Q_GE470 (hon 16 (by kernel_rfl)))
                have NB442_470 := Aside0.mk (Q_NB442_470 (hon 16 (by kernel_rfl)))
                have NB470_442 := Aside0.mk (Q_NB470_442 (hon 16 (by kernel_rfl)))
                have BK470 := Aside0.mk (Q_BK470_e17 (hon 17 (by kernel_rfl)))
                refine value_ (w1 := w') (v := .int .i64 t469) (by rfl) rfl ?_ ?_
                ·go_simp
                 (try simp only [i64_w])
                 try rfl
                 all_goals ((try simp only [decide_eq_true_eq, ByteArray.size_append, ByteArray.size_extract] at *); omega)
                refine hK.out _ _ ⟨v457, gb470, m16_, (by rw [ha.out]; exact putSel_upk 12 hb_ rfl rfl rfl), Q_BK442, Q_HB, Q_HO458, fun _ h1_ => absurd ((hon 17 (by kernel_rfl)).symm.trans h1_) (by decide), Q_GW470, Q_GE470, Q_NB442_470, Q_NB470_442, Q_BK470_e17, Q_X16_⟩
               exact steps_nil
              rintro b a w62 hall ⟨v457, gb470, m16_, ha, Q_BK442, Q_HB, Q_HO458, Q_BK470, Q_GW470, Q_GE470, Q_NB442_470, Q_NB470_442, Q_BK470_e17, Q_X16_⟩
              clear BK442 HB
              have hb2_ := hall 2 (by kernel_rfl)
              have hb4_ := hall 4 (by kernel_rfl)
              have hb5_ := hall 5 (by kernel_rfl)
              have hb6_ := hall 6 (by kernel_rfl)
              have hb9_ := hall 9 (by kernel_rfl)
              have hb10_ := hall 10 (by kernel_rfl)
              have hb11_ := hall 11 (by kernel_rfl)
              have hb12_ := hall 12 (by kernel_rfl)
              have hb13_ := hall 13 (by kernel_rfl)
              have hb14_ := hall 14 (by kernel_rfl)
              have hb15_ := hall 15 (by kernel_rfl)
              have hb16_ := hall 16 (by kernel_rfl)
              have hb17_ := hall 17 (by kernel_rfl)
              have hb18_ := hall 18 (by kernel_rfl)
              subst ha
              obtain rfl := Q_X16_ hb16_
              simp only [putSel, hb2_, hb4_, hb5_, hb6_, hb9_, hb10_, hb11_, hb12_, hb13_, hb14_, hb15_, hb16_, hb17_, hb18_, if_true, Act.put, List.setIfInBounds_toArray, List.set_cons_zero, List.set_cons_succ]
              have BK442 := Aside0.mk Q_BK442
              clear Q_BK442
              have HB := Aside0.mk Q_HB
              clear Q_HB
              have HO458 := Aside0.mk (Q_HO458 hb4_)
              clear Q_HO458
              clear Q_BK470
              have GW470 := Aside0.mk (Q_GW470 hb16_)
              clear Q_GW470
              have GE470 := Aside0.mk (Q_GE470 hb16_)
              clear Q_GE470
              have NB442_470 := Aside0.mk (Q_NB442_470 hb16_)
              clear Q_NB442_470
              have NB470_442 := Aside0.mk (Q_NB470_442 hb16_)
              clear Q_NB470_442
              have BK470 := Aside0.mk (Q_BK470_e17 hb17_)
              clear Q_BK470_e17
              clear hall hb2_ hb4_ hb5_ hb6_ hb9_ hb10_ hb11_ hb12_ hb13_ hb14_ hb15_ hb16_ hb17_ hb18_
              have p23 : 0 ≤ (x9_7 : Int) := of_decide_eq_true (by first | (with_reducible assumption) | assumption)
              have q23 : x9_7 < (t453.size : Int) := of_decide_eq_true (by first | (with_reducible assumption) | assumption)
              have hx23 := bt_at t453 x9_7
              replace p23 := eq_true p23
              replace q23 := eq_true q23
              try go_wp2_with (first | (go_at_call 12; (with_reducible refine (gangwaylaw06_fixed.calls kj7  t472 _ ?sideL A46.out).mono ?_); (case sideL => exact laid_below HLD.out (by repeat (first | (with_reducible first | exact HB.out | apply below_alloc | apply pw_below_drewN | apply below_drew1 | refine below_set ?_ GE442.out | refine below_set ?_ GE470.out) | exact HB.out))); rintro e w64 ⟨rfl, hb⟩; have n0_ := Aside0.mk (Kd.R_below (by (with_reducible repeat (first | apply Kd.R_alloc | apply Kd.R_drewN | apply Kd.R_drew)); exact HO458.out) hb); have n1_ := Aside0.mk (blk_below (g := gb442) (o := .cells #[.int .i64 t443, .int .i64 t444, .bool t445, .bool t446, .int .i64 t447, .int .i64 t448, .int .i64 t449, .int .u32 t450, .int .u32 t451, .string t452] 24 (0, 0)) (by (with_reducible repeat (first | refine blk_drewN ?_ _ | refine blk_drew ?_ | refine blk_alloc ?_ _)); exact BK442.out) hb); have n2_ := Aside0.mk (blk_below (g := gb470) (o := .cells #[.int .i64 t459, .int .i64 t460, .bool t461, .bool t462, .int .i64 t463, .int .i64 t464, .int .i64 t465, .int .u32 t466, .int .u32 t467, .string t468] 24 (0, 0)) (by (with_reducible repeat (first | refine blk_drewN ?_ _ | refine blk_drew ?_ | refine blk_alloc ?_ _)); exact BK470.out) hb); have n3_ := Aside0.mk (below_step (by repeat (first | (with_reducible first | exact HB.out | apply below_alloc | apply pw_below_drewN | apply below_drew1 | refine below_set ?_ GE442.out | refine below_set ?_ GE470.out) | exact HB.out)) hb); clear HO458; clear BK442; clear BK470; clear HB; have HO458 := n0_; have BK442 := n1_; have BK470 := n2_; have HB := n3_; clear n0_ n1_ n2_ n3_; have hcy1_442_0 := (show World.cell? _ ⟨gb442, 0, none⟩ = some (.int .i64 t443) from (blk_cell BK442.out 0).trans rfl); have hcy1_442_1 := (show World.cell? _ ⟨gb442, 1, none⟩ = some (.int .i64 t444) from (blk_cell BK442.out 1).trans rfl); have hcy1_442_2 := (show World.cell? _ ⟨gb442, 2, none⟩ = some (.bool t445) from (blk_cell BK442.out 2).trans rfl); have hcy1_442_3 := (show World.cell? _ ⟨gb442, 3, none⟩ = some (.bool t446) from (blk_cell BK442.out 3).trans rfl); have hcy1_442_4 := (show World.cell? _ ⟨gb442, 4, none⟩ = some (.int .i64 t447) from (blk_cell BK442.out 4).trans rfl); have hcy1_442_5 := (show World.cell? _ ⟨gb442, 5, none⟩ = some (.int .i64 t448) from (blk_cell BK442.out 5).trans rfl); have hcy1_442_6 := (show World.cell? _ ⟨gb442, 6, none⟩ = some (.int .i64 t449) from (blk_cell BK442.out 6).trans rfl); have hcy1_442_7 := (show World.cell? _ ⟨gb442, 7, none⟩ = some (.int .u32 t450) from (blk_cell BK442.out 7).trans rfl); have hcy1_442_8 := (show World.cell? _ ⟨gb442, 8, none⟩ = some (.int .u32 t451) from (blk_cell BK442.out 8).trans rfl); have hcy1_442_9 := (show World.cell? _ ⟨gb442, 9, none⟩ = some (.string t452) from (blk_cell BK442.out 9).trans rfl); (try clear hb); (try clear hb2); (try clear hk); (try clear hi)))
              go_ret
              exact ⟨by first | rfl | (simp [errW_none, errW_some] <;> rfl) | (simp only [← hji17]; first | rfl | (simp [errW_none, errW_some] <;> rfl)) | (simp [*, errW_none, errW_some] <;> rfl) | (simp [*, IntKind.wrap_u32]; done) | (simp_all [IntKind.wrap_u32]; done), by repeat (first | (with_reducible first | exact HB.out | apply below_alloc | apply pw_below_drewN | apply below_drew1 | refine below_set ?_ GE442.out | refine below_set ?_ GE470.out) | exact HB.out)⟩
           ·rw [if_neg c22] at H
            exact absurd H (by simp)
          ·rw [if_neg c20] at H
           exact absurd H (by simp)
         ·rw [if_neg c19] at H
          exact absurd H (by simp)
        ·rw [if_neg c18] at H
         exact absurd H (by simp)
       ·rw [if_neg c16] at H
        exact absurd H (by simp)
      ·rw [if_neg c15] at H
       exact absurd H (by simp)
     ·rw [if_neg c14] at H
      exact absurd H (by simp)
 ·rw [if_neg c6] at H
  have c6b0 : (t454 == 0) = false := beq_eq_false_iff_ne.mpr c6
  have c6b1 : (t454 != 0) = true := bne_iff_ne.mpr c6
  by_cases c65 : t453.toList = ([] : List UInt8)
  ·rw [if_pos c65] at H
   have c65b0 : (t453.toList == ([] : List UInt8)) = true := beq_iff_eq.mpr c65
   have c65b1 : (t453.toList != ([] : List UInt8)) = false := bne_eq_false_iff_eq.mpr c65
   clear c65
   replace H := Option.bind_eq_some_iff.mp H
   obtain ⟨t455, A660, H⟩ := H
   replace H : (some t455) = some r := H
   have A66 := Aside0.mk A660
   clear A660
   obtain rfl := Option.some.inj H
   go_enter Tryd.func7, Tryd.ntmps7
   go_wp2_with (first | ((with_reducible refine gate_dst (N := 3) rfl ?_); refine box_event ?hg (N := 3) ?hd (cs := #[.int .i64 a0_0, .int .i64 a0_1, .bool a0_2, .bool a0_3, .int .i64 a0_4, .int .i64 a0_5, .int .i64 a0_6, .int .u32 a0_7, .int .u32 a0_8, .string a0_9]) (t := 24) ?hr ?_; (case hd => rfl); (case hg => rfl); (case hr => first | (go_simp; done) | (go_simp; rfl)); intro gb442 hg w67 hbox hb; have n0_ := Aside0.mk (below_step (by repeat (first | (with_reducible first | exact HB.out | apply below_alloc | apply pw_below_drewN | apply below_drew1) | exact HB.out)) hb); have n1_ := Aside0.mk (hbox); have n2_ := Aside0.mk ((by rw [hg]; exact (below_size (by repeat (first | (with_reducible first | exact HB.out | apply below_alloc | apply pw_below_drewN | apply below_drew1) | exact HB.out))) : w.heap.size ≤ gb442)); have n3_ := Aside0.mk ((by rw [hg]; exact (below_size (by repeat (first | (with_reducible first | exact HB.out | apply below_alloc | apply pw_below_drewN | apply below_drew1) | exact HB.out))) : w.heap.size ≤ gb442)); clear HB; have HB := n0_; have BK442 := n1_; have GW442 := n2_; have GE442 := n3_; clear n0_ n1_ n2_ n3_; clear hb hbox hg; have hcz68_0 : w67.cell? ⟨gb442, 0, none⟩ = some (.int .i64 a0_0) := (blk_cell BK442.out 0).trans rfl; have hcz68_1 : w67.cell? ⟨gb442, 1, none⟩ = some (.int .i64 a0_1) := (blk_cell BK442.out 1).trans rfl; have hcz68_2 : w67.cell? ⟨gb442, 2, none⟩ = some (.bool a0_2) := (blk_cell BK442.out 2).trans rfl; have hcz68_3 : w67.cell? ⟨gb442, 3, none⟩ = some (.bool a0_3) := (blk_cell BK442.out 3).trans rfl; have hcz68_4 : w67.cell? ⟨gb442, 4, none⟩ = some (.int .i64 a0_4) := (blk_cell BK442.out 4).trans rfl; have hcz68_5 : w67.cell? ⟨gb442, 5, none⟩ = some (.int .i64 a0_5) := (blk_cell BK442.out 5).trans rfl; have hcz68_6 : w67.cell? ⟨gb442, 6, none⟩ = some (.int .i64 a0_6) := (blk_cell BK442.out 6).trans rfl; have hcz68_7 : w67.cell? ⟨gb442, 7, none⟩ = some (.int .u32 a0_7) := (blk_cell BK442.out 7).trans rfl; have hcz68_8 : w67.cell? ⟨gb442, 8, none⟩ = some (.int .u32 a0_8) := (blk_cell BK442.out 8).trans rfl; have hcz68_9 : w67.cell? ⟨gb442, 9, none⟩ = some (.string a0_9) := (blk_cell BK442.out 9).trans rfl; have hfz68_0 := blk_frozen BK442.out 0; have hfz68_1 := blk_frozen BK442.out 1; have hfz68_2 := blk_frozen BK442.out 2; have hfz68_3 := blk_frozen BK442.out 3; have hfz68_4 := blk_frozen BK442.out 4; have hfz68_5 := blk_frozen BK442.out 5; have hfz68_6 := blk_frozen BK442.out 6; have hfz68_7 := blk_frozen BK442.out 7; have hfz68_8 := blk_frozen BK442.out 8; have hfz68_9 := blk_frozen BK442.out 9) | ((with_reducible refine gate_callee (f := 9) rfl ?_); refine goesL_ (some 13) rfl rfl Tryd.func9 (by kernel_rfl) rfl #[.agg #[.int .i64 a0_0, .int .i64 a0_1, .bool a0_2, .bool a0_3, .int .i64 a0_4, .int .i64 a0_5, .int .i64 a0_6, .int .u32 a0_7, .int .u32 a0_8, .string a0_9]] rfl (by (try simp only [List.map_toArray, List.map_cons, List.map_nil]); first | done | rfl | (simp only [List.length_drop, List.length_take]; rfl)) ?_; (with_reducible refine (gangwaylaw06_cut.calls a0_0 a0_1 a0_2 a0_3 a0_4 a0_5 a0_6 a0_7 a0_8 a0_9 t443 t444 t445 t446 t447 t448 t449 t450 t451 t452 _ A4.out).mono ?_); rintro e w69 ⟨rfl, hb⟩; refine ⟨_, rfl, ?_⟩; have n0_ := Aside0.mk (blk_below (g := gb442) (o := .cells #[.int .i64 a0_0, .int .i64 a0_1, .bool a0_2, .bool a0_3, .int .i64 a0_4, .int .i64 a0_5, .int .i64 a0_6, .int .u32 a0_7, .int .u32 a0_8, .string a0_9] 24 (0, 0)) (by (with_reducible repeat (first | refine blk_drewN ?_ _ | refine blk_drew ?_ | refine blk_alloc ?_ _)); exact BK442.out) hb); have n1_ := Aside0.mk (below_step (by repeat (first | (with_reducible first | exact HB.out | apply below_alloc | apply pw_below_drewN | apply below_drew1 | refine below_set ?_ GE442.out) | exact HB.out)) hb); clear BK442; clear HB; have BK442 := n0_; have HB := n1_; clear n0_ n1_; have hcy1_442_0 := (show World.cell? _ ⟨gb442, 0, none⟩ = some (.int .i64 a0_0) from (blk_cell BK442.out 0).trans rfl); have hcy1_442_1 := (show World.cell? _ ⟨gb442, 1, none⟩ = some (.int .i64 a0_1) from (blk_cell BK442.out 1).trans rfl); have hcy1_442_2 := (show World.cell? _ ⟨gb442, 2, none⟩ = some (.bool a0_2) from (blk_cell BK442.out 2).trans rfl); have hcy1_442_3 := (show World.cell? _ ⟨gb442, 3, none⟩ = some (.bool a0_3) from (blk_cell BK442.out 3).trans rfl); have hcy1_442_4 := (show World.cell? _ ⟨gb442, 4, none⟩ = some (.int .i64 a0_4) from (blk_cell BK442.out 4).trans rfl); have hcy1_442_5 := (show World.cell? _ ⟨gb442, 5, none⟩ = some (.int .i64 a0_5) from (blk_cell BK442.out 5).trans rfl); have hcy1_442_6 := (show World.cell? _ ⟨gb442, 6, none⟩ = some (.int .i64 a0_6) from (blk_cell BK442.out 6).trans rfl); have hcy1_442_7 := (show World.cell? _ ⟨gb442, 7, none⟩ = some (.int .u32 a0_7) from (blk_cell BK442.out 7).trans rfl); have hcy1_442_8 := (show World.cell? _ ⟨gb442, 8, none⟩ = some (.int .u32 a0_8) from (blk_cell BK442.out 8).trans rfl); have hcy1_442_9 := (show World.cell? _ ⟨gb442, 9, none⟩ = some (.string a0_9) from (blk_cell BK442.out 9).trans rfl); (try clear hb); (try clear hb2); (try clear hk); (try clear hi); have hcz70_0 : w69.cell? ⟨gb442, 0, none⟩ = some (.int .i64 a0_0) := (blk_cell BK442.out 0).trans rfl; have hcz70_1 : w69.cell? ⟨gb442, 1, none⟩ = some (.int .i64 a0_1) := (blk_cell BK442.out 1).trans rfl; have hcz70_2 : w69.cell? ⟨gb442, 2, none⟩ = some (.bool a0_2) := (blk_cell BK442.out 2).trans rfl; have hcz70_3 : w69.cell? ⟨gb442, 3, none⟩ = some (.bool a0_3) := (blk_cell BK442.out 3).trans rfl; have hcz70_4 : w69.cell? ⟨gb442, 4, none⟩ = some (.int .i64 a0_4) := (blk_cell BK442.out 4).trans rfl; have hcz70_5 : w69.cell? ⟨gb442, 5, none⟩ = some (.int .i64 a0_5) := (blk_cell BK442.out 5).trans rfl; have hcz70_6 : w69.cell? ⟨gb442, 6, none⟩ = some (.int .i64 a0_6) := (blk_cell BK442.out 6).trans rfl; have hcz70_7 : w69.cell? ⟨gb442, 7, none⟩ = some (.int .u32 a0_7) := (blk_cell BK442.out 7).trans rfl; have hcz70_8 : w69.cell? ⟨gb442, 8, none⟩ = some (.int .u32 a0_8) := (blk_cell BK442.out 8).trans rfl; have hcz70_9 : w69.cell? ⟨gb442, 9, none⟩ = some (.string a0_9) := (blk_cell BK442.out 9).trans rfl; have hfz70_0 := blk_frozen BK442.out 0; have hfz70_1 := blk_frozen BK442.out 1; have hfz70_2 := blk_frozen BK442.out 2; have hfz70_3 := blk_frozen BK442.out 3; have hfz70_4 := blk_frozen BK442.out 4; have hfz70_5 := blk_frozen BK442.out 5; have hfz70_6 := blk_frozen BK442.out 6; have hfz70_7 := blk_frozen BK442.out 7; have hfz70_8 := blk_frozen BK442.out 8; have hfz70_9 := blk_frozen BK442.out 9) | (obtain ⟨w69f, hgw_⟩ : ∃ y, y = (World.setCell (World.setCell (World.setCell (World.setCell w69 ⟨gb442, 0, none⟩ (.int .i64 t443)) ⟨gb442, 1, none⟩ (.int .i64 t444)) ⟨gb442, 2, none⟩ (.bool t445)) ⟨gb442, 3, none⟩ (.bool t446)) := ⟨_, rfl⟩; rw [← hgw_]; have m0_ := Aside0.mk (show w69f.heap[gb442]? = some (.cells #[.int .i64 t443, .int .i64 t444, .bool t445, .bool t446, .int .i64 a0_4, .int .i64 a0_5, .int .i64 a0_6, .int .u32 a0_7, .int .u32 a0_8, .string a0_9] 24 (0, 0)) from (by rw [hgw_]; refine blk_put (cs := #[.int .i64 t443, .int .i64 t444, .bool t445, .bool a0_3, .int .i64 a0_4, .int .i64 a0_5, .int .i64 a0_6, .int .u32 a0_7, .int .u32 a0_8, .string a0_9]) ?_ 3 _ rfl; (with_reducible repeat (first | refine blk_drewN ?_ _ | refine blk_drew ?_ | refine blk_alloc ?_ _)); refine blk_put (cs := #[.int .i64 t443, .int .i64 t444, .bool a0_2, .bool a0_3, .int .i64 a0_4, .int .i64 a0_5, .int .i64 a0_6, .int .u32 a0_7, .int .u32 a0_8, .string a0_9]) ?_ 2 _ rfl; (with_reducible repeat (first | refine blk_drewN ?_ _ | refine blk_drew ?_ | refine blk_alloc ?_ _)); refine blk_put (cs := #[.int .i64 t443, .int .i64 a0_1, .bool a0_2, .bool a0_3, .int .i64 a0_4, .int .i64 a0_5, .int .i64 a0_6, .int .u32 a0_7, .int .u32 a0_8, .string a0_9]) ?_ 1 _ rfl; (with_reducible repeat (first | refine blk_drewN ?_ _ | refine blk_drew ?_ | refine blk_alloc ?_ _)); refine blk_put (cs := #[.int .i64 a0_0, .int .i64 a0_1, .bool a0_2, .bool a0_3, .int .i64 a0_4, .int .i64 a0_5, .int .i64 a0_6, .int .u32 a0_7, .int .u32 a0_8, .string a0_9]) ?_ 0 _ rfl; (with_reducible repeat (first | refine blk_drewN ?_ _ | refine blk_drew ?_ | refine blk_alloc ?_ _)); exact BK442.out)); have mb_ := Aside0.mk (show Below w.heap.size w w69f from (by rw [hgw_]; exact (by repeat (first | (with_reducible first | exact HB.out | apply below_alloc | apply pw_below_drewN | apply below_drew1 | refine below_set ?_ GE442.out) | exact HB.out)))); clear BK442; have BK442 := m0_; clear m0_; clear HB; have HB := mb_; clear mb_; clear hgw_; have hcf442_0 : w69f.cell? ⟨gb442, 0, none⟩ = some (.int .i64 t443) := (blk_cell BK442.out 0).trans rfl; have hcf442_1 : w69f.cell? ⟨gb442, 1, none⟩ = some (.int .i64 t444) := (blk_cell BK442.out 1).trans rfl; have hcf442_2 : w69f.cell? ⟨gb442, 2, none⟩ = some (.bool t445) := (blk_cell BK442.out 2).trans rfl; have hcf442_3 : w69f.cell? ⟨gb442, 3, none⟩ = some (.bool t446) := (blk_cell BK442.out 3).trans rfl; have hcf442_4 : w69f.cell? ⟨gb442, 4, none⟩ = some (.int .i64 a0_4) := (blk_cell BK442.out 4).trans rfl; have hcf442_5 : w69f.cell? ⟨gb442, 5, none⟩ = some (.int .i64 a0_5) := (blk_cell BK442.out 5).trans rfl; have hcf442_6 : w69f.cell? ⟨gb442, 6, none⟩ = some (.int .i64 a0_6) := (blk_cell BK442.out 6).trans rfl; have hcf442_7 : w69f.cell? ⟨gb442, 7, none⟩ = some (.int .u32 a0_7) := (blk_cell BK442.out 7).trans rfl; have hcf442_8 : w69f.cell? ⟨gb442, 8, none⟩ = some (.int .u32 a0_8) := (blk_cell BK442.out 8).trans rfl; have hcf442_9 : w69f.cell? ⟨gb442, 9, none⟩ = some (.string a0_9) := (blk_cell BK442.out 9).trans rfl; have hff442_0 := blk_frozen BK442.out 0; have hff442_1 := blk_frozen BK442.out 1; have hff442_2 := blk_frozen BK442.out 2; have hff442_3 := blk_frozen BK442.out 3; have hff442_4 := blk_frozen BK442.out 4; have hff442_5 := blk_frozen BK442.out 5; have hff442_6 := blk_frozen BK442.out 6; have hff442_7 := blk_frozen BK442.out 7; have hff442_8 := blk_frozen BK442.out 8; have hff442_9 := blk_frozen BK442.out 9) | ((with_reducible refine gate_callee (f := 10) rfl ?_); refine goesL_ (some 16) rfl rfl Tryd.func10 (by kernel_rfl) rfl #[.agg #[.int .i64 t443, .int .i64 t444, .bool t445, .bool t446, .int .i64 t447, .int .i64 t448, .int .i64 t449, .int .u32 t450, .int .u32 t451, .string t452]] rfl (by (try simp only [List.map_toArray, List.map_cons, List.map_nil]); first | done | rfl | (simp only [List.length_drop, List.length_take]; rfl)) ?_; (with_reducible refine (inet_Build.calls k t443 t444 t445 t446 t447 t448 t449 t450 t451 t452 t453 t454 _ A5.out).mono ?_); rintro e w71 ⟨rfl, hb⟩; refine ⟨_, rfl, ?_⟩; have n0_ := Aside0.mk (blk_below (g := gb442) (o := .cells #[.int .i64 t443, .int .i64 t444, .bool t445, .bool t446, .int .i64 t447, .int .i64 t448, .int .i64 t449, .int .u32 t450, .int .u32 t451, .string t452] 24 (0, 0)) (by (with_reducible repeat (first | refine blk_drewN ?_ _ | refine blk_drew ?_ | refine blk_alloc ?_ _)); refine blk_put (cs := #[.int .i64 t443, .int .i64 t444, .bool t445, .bool t446, .int .i64 t447, .int .i64 t448, .int .i64 t449, .int .u32 t450, .int .u32 t451, .string a0_9]) ?_ 9 _ rfl; (with_reducible repeat (first | refine blk_drewN ?_ _ | refine blk_drew ?_ | refine blk_alloc ?_ _)); refine blk_put (cs := #[.int .i64 t443, .int .i64 t444, .bool t445, .bool t446, .int .i64 t447, .int .i64 t448, .int .i64 t449, .int .u32 t450, .int .u32 a0_8, .string a0_9]) ?_ 8 _ rfl; (with_reducible repeat (first | refine blk_drewN ?_ _ | refine blk_drew ?_ | refine blk_alloc ?_ _)); refine blk_put (cs := #[.int .i64 t443, .int .i64 t444, .bool t445, .bool t446, .int .i64 t447, .int .i64 t448, .int .i64 t449, .int .u32 a0_7, .int .u32 a0_8, .string a0_9]) ?_ 7 _ rfl; (with_reducible repeat (first | refine blk_drewN ?_ _ | refine blk_drew ?_ | refine blk_alloc ?_ _)); refine blk_put (cs := #[.int .i64 t443, .int .i64 t444, .bool t445, .bool t446, .int .i64 t447, .int .i64 t448, .int .i64 a0_6, .int .u32 a0_7, .int .u32 a0_8, .string a0_9]) ?_ 6 _ rfl; (with_reducible repeat (first | refine blk_drewN ?_ _ | refine blk_drew ?_ | refine blk_alloc ?_ _)); refine blk_put (cs := #[.int .i64 t443, .int .i64 t444, .bool t445, .bool t446, .int .i64 t447, .int .i64 a0_5, .int .i64 a0_6, .int .u32 a0_7, .int .u32 a0_8, .string a0_9]) ?_ 5 _ rfl; (with_reducible repeat (first | refine blk_drewN ?_ _ | refine blk_drew ?_ | refine blk_alloc ?_ _)); refine blk_put (cs := #[.int .i64 t443, .int .i64 t444, .bool t445, .bool t446, .int .i64 a0_4, .int .i64 a0_5, .int .i64 a0_6, .int .u32 a0_7, .int .u32 a0_8, .string a0_9]) ?_ 4 _ rfl; (with_reducible repeat (first | refine blk_drewN ?_ _ | refine blk_drew ?_ | refine blk_alloc ?_ _)); exact BK442.out) hb); have n1_ := Aside0.mk (below_step (by repeat (first | (with_reducible first | exact HB.out | apply below_alloc | apply pw_below_drewN | apply below_drew1 | refine below_set ?_ GE442.out) | exact HB.out)) hb); clear BK442; clear HB; have BK442 := n0_; have HB := n1_; clear n0_ n1_; have hcy2_442_0 := (show World.cell? _ ⟨gb442, 0, none⟩ = some (.int .i64 t443) from (blk_cell BK442.out 0).trans rfl); have hcy2_442_1 := (show World.cell? _ ⟨gb442, 1, none⟩ = some (.int .i64 t444) from (blk_cell BK442.out 1).trans rfl); have hcy2_442_2 := (show World.cell? _ ⟨gb442, 2, none⟩ = some (.bool t445) from (blk_cell BK442.out 2).trans rfl); have hcy2_442_3 := (show World.cell? _ ⟨gb442, 3, none⟩ = some (.bool t446) from (blk_cell BK442.out 3).trans rfl); have hcy2_442_4 := (show World.cell? _ ⟨gb442, 4, none⟩ = some (.int .i64 t447) from (blk_cell BK442.out 4).trans rfl); have hcy2_442_5 := (show World.cell? _ ⟨gb442, 5, none⟩ = some (.int .i64 t448) from (blk_cell BK442.out 5).trans rfl); have hcy2_442_6 := (show World.cell? _ ⟨gb442, 6, none⟩ = some (.int .i64 t449) from (blk_cell BK442.out 6).trans rfl); have hcy2_442_7 := (show World.cell? _ ⟨gb442, 7, none⟩ = some (.int .u32 t450) from (blk_cell BK442.out 7).trans rfl); have hcy2_442_8 := (show World.cell? _ ⟨gb442, 8, none⟩ = some (.int .u32 t451) from (blk_cell BK442.out 8).trans rfl); have hcy2_442_9 := (show World.cell? _ ⟨gb442, 9, none⟩ = some (.string t452) from (blk_cell BK442.out 9).trans rfl); (try clear hb); (try clear hb2); (try clear hk); (try clear hi)) | (go_at_call 12; (with_reducible refine (gangwaylaw06_fixed.calls k  t455 _ ?sideL A66.out).mono ?_); (case sideL => exact laid_below HLD.out (by repeat (first | (with_reducible first | exact HB.out | apply below_alloc | apply pw_below_drewN | apply below_drew1 | refine below_set ?_ GE442.out) | exact HB.out))); rintro e w72 ⟨rfl, hb⟩; have n0_ := Aside0.mk (blk_below (g := gb442) (o := .cells #[.int .i64 t443, .int .i64 t444, .bool t445, .bool t446, .int .i64 t447, .int .i64 t448, .int .i64 t449, .int .u32 t450, .int .u32 t451, .string t452] 24 (0, 0)) (by (with_reducible repeat (first | refine blk_drewN ?_ _ | refine blk_drew ?_ | refine blk_alloc ?_ _)); exact BK442.out) hb); have n1_ := Aside0.mk (below_step (by repeat (first | (with_reducible first | exact HB.out | apply below_alloc | apply pw_below_drewN | apply below_drew1 | refine below_set ?_ GE442.out) | exact HB.out)) hb); clear BK442; clear HB; have BK442 := n0_; have HB := n1_; clear n0_ n1_; have hcy3_442_0 := (show World.cell? _ ⟨gb442, 0, none⟩ = some (.int .i64 t443) from (blk_cell BK442.out 0).trans rfl); have hcy3_442_1 := (show World.cell? _ ⟨gb442, 1, none⟩ = some (.int .i64 t444) from (blk_cell BK442.out 1).trans rfl); have hcy3_442_2 := (show World.cell? _ ⟨gb442, 2, none⟩ = some (.bool t445) from (blk_cell BK442.out 2).trans rfl); have hcy3_442_3 := (show World.cell? _ ⟨gb442, 3, none⟩ = some (.bool t446) from (blk_cell BK442.out 3).trans rfl); have hcy3_442_4 := (show World.cell? _ ⟨gb442, 4, none⟩ = some (.int .i64 t447) from (blk_cell BK442.out 4).trans rfl); have hcy3_442_5 := (show World.cell? _ ⟨gb442, 5, none⟩ = some (.int .i64 t448) from (blk_cell BK442.out 5).trans rfl); have hcy3_442_6 := (show World.cell? _ ⟨gb442, 6, none⟩ = some (.int .i64 t449) from (blk_cell BK442.out 6).trans rfl); have hcy3_442_7 := (show World.cell? _ ⟨gb442, 7, none⟩ = some (.int .u32 t450) from (blk_cell BK442.out 7).trans rfl); have hcy3_442_8 := (show World.cell? _ ⟨gb442, 8, none⟩ = some (.int .u32 t451) from (blk_cell BK442.out 8).trans rfl); have hcy3_442_9 := (show World.cell? _ ⟨gb442, 9, none⟩ = some (.string t452) from (blk_cell BK442.out 9).trans rfl); (try clear hb); (try clear hb2); (try clear hk); (try clear hi)))
   go_ret
   exact ⟨by first | rfl | (simp [errW_none, errW_some] <;> rfl) | (simp [*, errW_none, errW_some] <;> rfl) | (simp [*, IntKind.wrap_u32]; done) | (simp_all [IntKind.wrap_u32]; done), by repeat (first | (with_reducible first | exact HB.out | apply below_alloc | apply pw_below_drewN | apply below_drew1 | refine below_set ?_ GE442.out) | exact HB.out)⟩
  ·rw [if_neg c65] at H
   exact absurd H (by simp)

end Go.Proofs.YtigagipeaheclaaDoor.P
