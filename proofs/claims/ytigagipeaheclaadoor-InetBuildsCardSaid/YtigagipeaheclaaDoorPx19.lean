-- squeezed
-- Written by wip/hprint.py (this session's program) through the kit's print program; hand contracts are marked 'by hand'.
import Derived.Test.YtigagipeaheclaaDoorPx0
import Derived.Test.YtigagipeaheclaaDoorPx2
import Derived.Test.YtigagipeaheclaaDoorPx7
import Derived.Test.YtigagipeaheclaaDoorPx8
import Derived.Test.YtigagipeaheclaaDoorPx11
import Derived.Test.YtigagipeaheclaaDoorPx18
namespace Go.Proofs.YtigagipeaheclaaDoor.P
open Go.RowKit Go.Proofs.YtigagipeaheclaaDoorW.PrintWords Go.Proofs.YtigagipeaheclaaDoorW.PrintLast Go.Proofs.YtigagipeaheclaaDoorW.PrintMore
attribute [local go_sem] max2_int min2_int max_two min_two max_three min_three max_four min_four   -- for this text's walks alone
set_option linter.unusedVariables false
set_option linter.unusedSimpArgs false

/-! ### gangwaylaw06_InetBuilds: function 3 -/
def gangwaylaw06_InetBuilds.f (k : Nat) (a0_0 : Int) (a0_1 : Int) (a0_2 : Bool) (a0_3 : Bool) (a0_4 : Int) (a0_5 : Int) (a0_6 : Int) (a0_7 : Int) (a0_8 : Int) (a0_9 : ByteArray) : Option (Bool) := (gangwaylaw06_cut.f a0_0 a0_1 a0_2 a0_3 a0_4 a0_5 a0_6 a0_7 a0_8 a0_9).bind fun bt291 => ((inet_Build.f k bt291.1 bt291.2.1 bt291.2.2.1 bt291.2.2.2.1 bt291.2.2.2.2.1 bt291.2.2.2.2.2.1 bt291.2.2.2.2.2.2.1 bt291.2.2.2.2.2.2.2.1 bt291.2.2.2.2.2.2.2.2.1 bt291.2.2.2.2.2.2.2.2.2).bind fun bt301 => ((gangwayref06_Build.f k bt291.1 bt291.2.1 bt291.2.2.1 bt291.2.2.2.1 bt291.2.2.2.2.1 bt291.2.2.2.2.2.1 bt291.2.2.2.2.2.2.1 bt291.2.2.2.2.2.2.2.1 bt291.2.2.2.2.2.2.2.2.1 bt291.2.2.2.2.2.2.2.2.2).bind fun bt303 => ((gangwaylaw06_fixed.f k).bind fun t305 => (if t305 = true then (if bt301.1.toList = bt303.1.toList then (if bt301.2 = bt303.2 then ((inet_Check.f bt291.1 bt291.2.1 bt291.2.2.1 bt291.2.2.2.1 bt291.2.2.2.2.1 bt291.2.2.2.2.2.1 bt291.2.2.2.2.2.2.1 bt291.2.2.2.2.2.2.2.1 bt291.2.2.2.2.2.2.2.2.1 bt291.2.2.2.2.2.2.2.2.2).bind fun t306 => ((gangwayref06_Check.f bt291.1 bt291.2.1 bt291.2.2.1 bt291.2.2.2.1 bt291.2.2.2.2.1 bt291.2.2.2.2.2.1 bt291.2.2.2.2.2.2.1 bt291.2.2.2.2.2.2.2.1 bt291.2.2.2.2.2.2.2.2.1 bt291.2.2.2.2.2.2.2.2.2).bind fun t307 => (if t306 = t307 then ((inet_Part.f bt291.1 bt291.2.1 bt291.2.2.1 bt291.2.2.2.1 bt291.2.2.2.2.1 bt291.2.2.2.2.2.1 bt291.2.2.2.2.2.2.1 bt291.2.2.2.2.2.2.2.1 bt291.2.2.2.2.2.2.2.2.1 bt291.2.2.2.2.2.2.2.2.2).bind fun t308 => (if bt291.2.2.2.1 = true then (some (t308 == true)) else (some (t308 == (decide (bt291.2.2.2.2.1 > 0)))))) else (none)))) else (none)) else (none)) else (none)))))
theorem gangwaylaw06_InetBuilds.mono : ∀ a0 a1 a2 a3 a4 a5 a6 a7 a8 a9 k, LeO (gangwaylaw06_InetBuilds.f k a0 a1 a2 a3 a4 a5 a6 a7 a8 a9) (gangwaylaw06_InetBuilds.f (k + 1) a0 a1 a2 a3 a4 a5 a6 a7 a8 a9) := by
 intro a0 a1 a2 a3 a4 a5 a6 a7 a8 a9 k
 unfold gangwaylaw06_InetBuilds.f
 repeat' first
   | (with_reducible exact gangwaylaw06_fixed.mono _)
   | (with_reducible exact gangwayref06_Build.mono _ _ _ _ _ _ _ _ _ _ _)
   | (with_reducible exact inet_Build.mono _ _ _ _ _ _ _ _ _ _ _)
   | (with_reducible exact LeO.refl _)
   | (with_reducible exact LeO.none _)
   | (with_reducible refine LeO.ite ?_ ?_)
   | (with_reducible refine LeO.bind ?_ (fun _ => ?_))
   | exact gangwaylaw06_fixed.mono _
   | exact gangwayref06_Build.mono _ _ _ _ _ _ _ _ _ _ _
   | exact inet_Build.mono _ _ _ _ _ _ _ _ _ _ _
   | exact LeO.none _
   | refine LeO.ite ?_ ?_
   | refine LeO.bind ?_ (fun _ => ?_)
def gangwaylaw06_InetBuilds.T4 : Bool × List (List Nat × List Nat) := (true, [([], []), ([0, 0], [0]), ([1], [1]), ([1], [1]), ([2, 3, 1], [1, 2, 3]), ([1, 4], [1, 4]), ([5, 1], [5]), ([6], [6]), ([6], [6]), ([7, 8, 6], [6, 7, 8]), ([6, 9], [6, 9]), ([10, 6], [10]), ([11], [11]), ([12, 11, 11], [11, 12]), ([11], [11]), ([14, 13, 11], [11, 14]), ([13, 15, 11], [11, 13, 15]), ([11, 16], [11, 16]), ([17, 15], [17]), ([18], [18]), ([19, 18, 18], [18, 19]), ([18], [18]), ([21, 18], [18, 21]), ([22, 20, 18], [18, 22]), ([23], [23]), ([24, 23], [23, 24]), ([25, 23], [23, 25]), ([23, 26, 18], [18, 23, 26]), ([20, 27, 18], [18, 20, 27]), ([18, 28], [18, 28]), ([29, 23, 0, 1, 2, 3, 4, 5, 6, 7, 8, 9, 10, 11, 12, 13, 14, 15, 16, 17, 18, 19, 20, 21, 22, 23, 24, 25, 26, 27, 28, 29], [29])])
def gangwaylaw06_InetBuilds.B4 : List Nat := [0, 1, 3, 3, 15, 31, 63, 127, 127, 511, 1023, 2047, 4095, 8191, 4095, 32767, 65535, 131071, 262143, 524287, 1048575, 524287, 2621439, 8388607, 16777215, 33554431, 67108863, 134217727, 268435455, 536870911, 1073741823]
theorem gangwaylaw06_InetBuilds.tab4 : rtab .any (opsOf Tryd.f3 4) = gangwaylaw06_InetBuilds.T4 := by kernel_rfl
theorem gangwaylaw06_InetBuilds.bits4 : waitsOk gangwaylaw06_InetBuilds.T4.2 gangwaylaw06_InetBuilds.B4 = true := by kernel_rfl
set_option maxHeartbeats 8000000 in
set_option maxRecDepth 100000 in
theorem gangwaylaw06_InetBuilds.calls (k : Nat) (a0_0 : Int) (a0_1 : Int) (a0_2 : Bool) (a0_3 : Bool) (a0_4 : Int) (a0_5 : Int) (a0_6 : Int) (a0_7 : Int) (a0_8 : Int) (a0_9 : ByteArray) (r : Bool) (w : World) (hL : Laid w) (h : gangwaylaw06_InetBuilds.f k a0_0 a0_1 a0_2 a0_3 a0_4 a0_5 a0_6 a0_7 a0_8 a0_9 = some r) :
  Calls Tryd.prog 3 #[.agg #[.int .i64 a0_0, .int .i64 a0_1, .bool a0_2, .bool a0_3, .int .i64 a0_4, .int .i64 a0_5, .int .i64 a0_6, .int .u32 a0_7, .int .u32 a0_8, .string a0_9]] w fun e w' => e = .returned (.bool r) ∧ Below w.heap.size w w' := by
 have HLD := Aside0.mk hL
 clear hL
 have hu24 := Tryd.underlying24
 have HB := Aside0.mk (Below.refl w.heap.size w)
 have H : ((gangwaylaw06_cut.f a0_0 a0_1 a0_2 a0_3 a0_4 a0_5 a0_6 a0_7 a0_8 a0_9).bind fun bt291 => ((inet_Build.f k bt291.1 bt291.2.1 bt291.2.2.1 bt291.2.2.2.1 bt291.2.2.2.2.1 bt291.2.2.2.2.2.1 bt291.2.2.2.2.2.2.1 bt291.2.2.2.2.2.2.2.1 bt291.2.2.2.2.2.2.2.2.1 bt291.2.2.2.2.2.2.2.2.2).bind fun bt301 => ((gangwayref06_Build.f k bt291.1 bt291.2.1 bt291.2.2.1 bt291.2.2.2.1 bt291.2.2.2.2.1 bt291.2.2.2.2.2.1 bt291.2.2.2.2.2.2.1 bt291.2.2.2.2.2.2.2.1 bt291.2.2.2.2.2.2.2.2.1 bt291.2.2.2.2.2.2.2.2.2).bind fun bt303 => ((gangwaylaw06_fixed.f k).bind fun t305 => (if t305 = true then (if bt301.1.toList = bt303.1.toList then (if bt301.2 = bt303.2 then ((inet_Check.f bt291.1 bt291.2.1 bt291.2.2.1 bt291.2.2.2.1 bt291.2.2.2.2.1 bt291.2.2.2.2.2.1 bt291.2.2.2.2.2.2.1 bt291.2.2.2.2.2.2.2.1 bt291.2.2.2.2.2.2.2.2.1 bt291.2.2.2.2.2.2.2.2.2).bind fun t306 => ((gangwayref06_Check.f bt291.1 bt291.2.1 bt291.2.2.1 bt291.2.2.2.1 bt291.2.2.2.2.1 bt291.2.2.2.2.2.1 bt291.2.2.2.2.2.2.1 bt291.2.2.2.2.2.2.2.1 bt291.2.2.2.2.2.2.2.2.1 bt291.2.2.2.2.2.2.2.2.2).bind fun t307 => (if t306 = t307 then ((inet_Part.f bt291.1 bt291.2.1 bt291.2.2.1 bt291.2.2.2.1 bt291.2.2.2.2.1 bt291.2.2.2.2.2.1 bt291.2.2.2.2.2.2.1 bt291.2.2.2.2.2.2.2.1 bt291.2.2.2.2.2.2.2.2.1 bt291.2.2.2.2.2.2.2.2.2).bind fun t308 => (if bt291.2.2.2.1 = true then (some (t308 == true)) else (some (t308 == (decide (bt291.2.2.2.2.1 > 0)))))) else (none)))) else (none)) else (none)) else (none)))))) = some r := h
 clear h
 replace H := Option.bind_eq_some_iff.mp H
 obtain ⟨⟨t291, t292, t293, t294, t295, t296, t297, t298, t299, t300⟩, A20, H⟩ := H
 replace H : ((inet_Build.f k t291 t292 t293 t294 t295 t296 t297 t298 t299 t300).bind fun bt301 => ((gangwayref06_Build.f k t291 t292 t293 t294 t295 t296 t297 t298 t299 t300).bind fun bt303 => ((gangwaylaw06_fixed.f k).bind fun t305 => (if t305 = true then (if bt301.1.toList = bt303.1.toList then (if bt301.2 = bt303.2 then ((inet_Check.f t291 t292 t293 t294 t295 t296 t297 t298 t299 t300).bind fun t306 => ((gangwayref06_Check.f t291 t292 t293 t294 t295 t296 t297 t298 t299 t300).bind fun t307 => (if t306 = t307 then ((inet_Part.f t291 t292 t293 t294 t295 t296 t297 t298 t299 t300).bind fun t308 => (if t294 = true then (some (t308 == true)) else (some (t308 == (decide (t295 > 0)))))) else (none)))) else (none)) else (none)) else (none))))) = some r := H
 have A2 := Aside0.mk A20
 clear A20
 replace H := Option.bind_eq_some_iff.mp H
 obtain ⟨⟨t301, t302⟩, A30, H⟩ := H
 replace H : ((gangwayref06_Build.f k t291 t292 t293 t294 t295 t296 t297 t298 t299 t300).bind fun bt303 => ((gangwaylaw06_fixed.f k).bind fun t305 => (if t305 = true then (if t301.toList = bt303.1.toList then (if t302 = bt303.2 then ((inet_Check.f t291 t292 t293 t294 t295 t296 t297 t298 t299 t300).bind fun t306 => ((gangwayref06_Check.f t291 t292 t293 t294 t295 t296 t297 t298 t299 t300).bind fun t307 => (if t306 = t307 then ((inet_Part.f t291 t292 t293 t294 t295 t296 t297 t298 t299 t300).bind fun t308 => (if t294 = true then (some (t308 == true)) else (some (t308 == (decide (t295 > 0)))))) else (none)))) else (none)) else (none)) else (none)))) = some r := H
 have A3 := Aside0.mk A30
 clear A30
 replace H := Option.bind_eq_some_iff.mp H
 obtain ⟨⟨t303, t304⟩, A40, H⟩ := H
 replace H : ((gangwaylaw06_fixed.f k).bind fun t305 => (if t305 = true then (if t301.toList = t303.toList then (if t302 = t304 then ((inet_Check.f t291 t292 t293 t294 t295 t296 t297 t298 t299 t300).bind fun t306 => ((gangwayref06_Check.f t291 t292 t293 t294 t295 t296 t297 t298 t299 t300).bind fun t307 => (if t306 = t307 then ((inet_Part.f t291 t292 t293 t294 t295 t296 t297 t298 t299 t300).bind fun t308 => (if t294 = true then (some (t308 == true)) else (some (t308 == (decide (t295 > 0)))))) else (none)))) else (none)) else (none)) else (none))) = some r := H
 have A4 := Aside0.mk A40
 clear A40
 replace H := Option.bind_eq_some_iff.mp H
 obtain ⟨t305, A50, H⟩ := H
 replace H : (if t305 = true then (if t301.toList = t303.toList then (if t302 = t304 then ((inet_Check.f t291 t292 t293 t294 t295 t296 t297 t298 t299 t300).bind fun t306 => ((gangwayref06_Check.f t291 t292 t293 t294 t295 t296 t297 t298 t299 t300).bind fun t307 => (if t306 = t307 then ((inet_Part.f t291 t292 t293 t294 t295 t296 t297 t298 t299 t300).bind fun t308 => (if t294 = true then (some (t308 == true)) else (some (t308 == (decide (t295 > 0)))))) else (none)))) else (none)) else (none)) else (none)) = some r := H
 have A5 := Aside0.mk A50
 clear A50
 by_cases c6 : t305 = true
 ·subst c6
  have H1 : (if t301.toList = t303.toList then (if t302 = t304 then ((inet_Check.f t291 t292 t293 t294 t295 t296 t297 t298 t299 t300).bind fun t306 => ((gangwayref06_Check.f t291 t292 t293 t294 t295 t296 t297 t298 t299 t300).bind fun t307 => (if t306 = t307 then ((inet_Part.f t291 t292 t293 t294 t295 t296 t297 t298 t299 t300).bind fun t308 => (if t294 = true then (some (t308 == true)) else (some (t308 == (decide (t295 > 0)))))) else (none)))) else (none)) else (none)) = some r := by rw [if_pos rfl] at H; exact H
  clear H
  have H := H1
  clear H1
  by_cases c7 : t301.toList = t303.toList
  ·rw [if_pos c7] at H
   have c7b0 : (t301.toList == t303.toList) = true := beq_iff_eq.mpr c7
   have c7b1 : (t301.toList != t303.toList) = false := bne_eq_false_iff_eq.mpr c7
   clear c7
   by_cases c8 : t302 = t304
   ·rw [if_pos c8] at H
    have c8b0 : (t302 == t304) = true := beq_iff_eq.mpr c8
    have c8b1 : (t302 != t304) = false := bne_eq_false_iff_eq.mpr c8
    clear c8
    replace H := Option.bind_eq_some_iff.mp H
    obtain ⟨t306, A90, H⟩ := H
    replace H : ((gangwayref06_Check.f t291 t292 t293 t294 t295 t296 t297 t298 t299 t300).bind fun t307 => (if t306 = t307 then ((inet_Part.f t291 t292 t293 t294 t295 t296 t297 t298 t299 t300).bind fun t308 => (if t294 = true then (some (t308 == true)) else (some (t308 == (decide (t295 > 0)))))) else (none))) = some r := H
    have A9 := Aside0.mk A90
    clear A90
    replace H := Option.bind_eq_some_iff.mp H
    obtain ⟨t307, A100, H⟩ := H
    replace H : (if t306 = t307 then ((inet_Part.f t291 t292 t293 t294 t295 t296 t297 t298 t299 t300).bind fun t308 => (if t294 = true then (some (t308 == true)) else (some (t308 == (decide (t295 > 0)))))) else (none)) = some r := H
    have A10 := Aside0.mk A100
    clear A100
    by_cases c11 : t306 = t307
    ·rw [if_pos c11] at H
     have c11b0 : (t306 == t307) = true := beq_iff_eq.mpr c11
     have c11b1 : (t306 != t307) = false := bne_eq_false_iff_eq.mpr c11
     clear c11
     replace H := Option.bind_eq_some_iff.mp H
     obtain ⟨t308, A120, H⟩ := H
     replace H : (if t294 = true then (some (t308 == true)) else (some (t308 == (decide (t295 > 0))))) = some r := H
     have A12 := Aside0.mk A120
     clear A120
     by_cases c13 : t294 = true
     ·subst c13
      have H1 : (some (t308 == true)) = some r := by rw [if_pos rfl] at H; exact H
      clear H
      have H := H1
      clear H1
      obtain rfl := Option.some.inj H
      go_enter Tryd.func3, Tryd.ntmps3
      try go_wp2_with (first | ((with_reducible refine gate_dst (N := 1) rfl ?_); refine box_event ?hg (N := 1) ?hd (cs := #[.int .i64 a0_0, .int .i64 a0_1, .bool a0_2, .bool a0_3, .int .i64 a0_4, .int .i64 a0_5, .int .i64 a0_6, .int .u32 a0_7, .int .u32 a0_8, .string a0_9]) (t := 24) ?hr ?_; (case hd => rfl); (case hg => rfl); (case hr => first | (go_simp; done) | (go_simp; rfl)); intro gb290 hg w14 hbox hb; have n0_ := Aside0.mk (below_step (by repeat (first | (with_reducible first | exact HB.out | apply below_alloc | apply pw_below_drewN | apply below_drew1) | exact HB.out)) hb); have n1_ := Aside0.mk (hbox); have n2_ := Aside0.mk ((by rw [hg]; exact (below_size (by repeat (first | (with_reducible first | exact HB.out | apply below_alloc | apply pw_below_drewN | apply below_drew1) | exact HB.out))) : w.heap.size ≤ gb290)); have n3_ := Aside0.mk ((by rw [hg]; exact (below_size (by repeat (first | (with_reducible first | exact HB.out | apply below_alloc | apply pw_below_drewN | apply below_drew1) | exact HB.out))) : w.heap.size ≤ gb290)); clear HB; have HB := n0_; have BK290 := n1_; have GW290 := n2_; have GE290 := n3_; clear n0_ n1_ n2_ n3_; clear hb hbox hg; have hcz15_0 : w14.cell? ⟨gb290, 0, none⟩ = some (.int .i64 a0_0) := (blk_cell BK290.out 0).trans rfl; have hcz15_1 : w14.cell? ⟨gb290, 1, none⟩ = some (.int .i64 a0_1) := (blk_cell BK290.out 1).trans rfl; have hcz15_2 : w14.cell? ⟨gb290, 2, none⟩ = some (.bool a0_2) := (blk_cell BK290.out 2).trans rfl; have hcz15_3 : w14.cell? ⟨gb290, 3, none⟩ = some (.bool a0_3) := (blk_cell BK290.out 3).trans rfl; have hcz15_4 : w14.cell? ⟨gb290, 4, none⟩ = some (.int .i64 a0_4) := (blk_cell BK290.out 4).trans rfl; have hcz15_5 : w14.cell? ⟨gb290, 5, none⟩ = some (.int .i64 a0_5) := (blk_cell BK290.out 5).trans rfl; have hcz15_6 : w14.cell? ⟨gb290, 6, none⟩ = some (.int .i64 a0_6) := (blk_cell BK290.out 6).trans rfl; have hcz15_7 : w14.cell? ⟨gb290, 7, none⟩ = some (.int .u32 a0_7) := (blk_cell BK290.out 7).trans rfl; have hcz15_8 : w14.cell? ⟨gb290, 8, none⟩ = some (.int .u32 a0_8) := (blk_cell BK290.out 8).trans rfl; have hcz15_9 : w14.cell? ⟨gb290, 9, none⟩ = some (.string a0_9) := (blk_cell BK290.out 9).trans rfl; have hfz15_0 := blk_frozen BK290.out 0; have hfz15_1 := blk_frozen BK290.out 1; have hfz15_2 := blk_frozen BK290.out 2; have hfz15_3 := blk_frozen BK290.out 3; have hfz15_4 := blk_frozen BK290.out 4; have hfz15_5 := blk_frozen BK290.out 5; have hfz15_6 := blk_frozen BK290.out 6; have hfz15_7 := blk_frozen BK290.out 7; have hfz15_8 := blk_frozen BK290.out 8; have hfz15_9 := blk_frozen BK290.out 9) | ((with_reducible refine gate_callee (f := 9) rfl ?_); refine goesL_ (some 8) rfl rfl Tryd.func9 (by kernel_rfl) rfl #[.agg #[.int .i64 a0_0, .int .i64 a0_1, .bool a0_2, .bool a0_3, .int .i64 a0_4, .int .i64 a0_5, .int .i64 a0_6, .int .u32 a0_7, .int .u32 a0_8, .string a0_9]] rfl (by (try simp only [List.map_toArray, List.map_cons, List.map_nil]); first | done | rfl | (simp only [List.length_drop, List.length_take]; rfl)) ?_; (with_reducible refine (gangwaylaw06_cut.calls a0_0 a0_1 a0_2 a0_3 a0_4 a0_5 a0_6 a0_7 a0_8 a0_9 t291 t292 t293 true t295 t296 t297 t298 t299 t300 _ A2.out).mono ?_); rintro e w16 ⟨rfl, hb⟩; refine ⟨_, rfl, ?_⟩; have n0_ := Aside0.mk (blk_below (g := gb290) (o := .cells #[.int .i64 a0_0, .int .i64 a0_1, .bool a0_2, .bool a0_3, .int .i64 a0_4, .int .i64 a0_5, .int .i64 a0_6, .int .u32 a0_7, .int .u32 a0_8, .string a0_9] 24 (0, 0)) (by (with_reducible repeat (first | refine blk_drewN ?_ _ | refine blk_drew ?_ | refine blk_alloc ?_ _)); exact BK290.out) hb); have n1_ := Aside0.mk (below_step (by repeat (first | (with_reducible first | exact HB.out | apply below_alloc | apply pw_below_drewN | apply below_drew1 | refine below_set ?_ GE290.out) | exact HB.out)) hb); clear BK290; clear HB; have BK290 := n0_; have HB := n1_; clear n0_ n1_; have hcy1_290_0 := (show World.cell? _ ⟨gb290, 0, none⟩ = some (.int .i64 a0_0) from (blk_cell BK290.out 0).trans rfl); have hcy1_290_1 := (show World.cell? _ ⟨gb290, 1, none⟩ = some (.int .i64 a0_1) from (blk_cell BK290.out 1).trans rfl); have hcy1_290_2 := (show World.cell? _ ⟨gb290, 2, none⟩ = some (.bool a0_2) from (blk_cell BK290.out 2).trans rfl); have hcy1_290_3 := (show World.cell? _ ⟨gb290, 3, none⟩ = some (.bool a0_3) from (blk_cell BK290.out 3).trans rfl); have hcy1_290_4 := (show World.cell? _ ⟨gb290, 4, none⟩ = some (.int .i64 a0_4) from (blk_cell BK290.out 4).trans rfl); have hcy1_290_5 := (show World.cell? _ ⟨gb290, 5, none⟩ = some (.int .i64 a0_5) from (blk_cell BK290.out 5).trans rfl); have hcy1_290_6 := (show World.cell? _ ⟨gb290, 6, none⟩ = some (.int .i64 a0_6) from (blk_cell BK290.out 6).trans rfl); have hcy1_290_7 := (show World.cell? _ ⟨gb290, 7, none⟩ = some (.int .u32 a0_7) from (blk_cell BK290.out 7).trans rfl); have hcy1_290_8 := (show World.cell? _ ⟨gb290, 8, none⟩ = some (.int .u32 a0_8) from (blk_cell BK290.out 8).trans rfl); have hcy1_290_9 := (show World.cell? _ ⟨gb290, 9, none⟩ = some (.string a0_9) from (blk_cell BK290.out 9).trans rfl); (try clear hb); (try clear hb2); (try clear hk); (try clear hi); have hcz17_0 : w16.cell? ⟨gb290, 0, none⟩ = some (.int .i64 a0_0) := (blk_cell BK290.out 0).trans rfl; have hcz17_1 : w16.cell? ⟨gb290, 1, none⟩ = some (.int .i64 a0_1) := (blk_cell BK290.out 1).trans rfl; have hcz17_2 : w16.cell? ⟨gb290, 2, none⟩ = some (.bool a0_2) := (blk_cell BK290.out 2).trans rfl; have hcz17_3 : w16.cell? ⟨gb290, 3, none⟩ = some (.bool a0_3) := (blk_cell BK290.out 3).trans rfl; have hcz17_4 : w16.cell? ⟨gb290, 4, none⟩ = some (.int .i64 a0_4) := (blk_cell BK290.out 4).trans rfl; have hcz17_5 : w16.cell? ⟨gb290, 5, none⟩ = some (.int .i64 a0_5) := (blk_cell BK290.out 5).trans rfl; have hcz17_6 : w16.cell? ⟨gb290, 6, none⟩ = some (.int .i64 a0_6) := (blk_cell BK290.out 6).trans rfl; have hcz17_7 : w16.cell? ⟨gb290, 7, none⟩ = some (.int .u32 a0_7) := (blk_cell BK290.out 7).trans rfl; have hcz17_8 : w16.cell? ⟨gb290, 8, none⟩ = some (.int .u32 a0_8) := (blk_cell BK290.out 8).trans rfl; have hcz17_9 : w16.cell? ⟨gb290, 9, none⟩ = some (.string a0_9) := (blk_cell BK290.out 9).trans rfl; have hfz17_0 := blk_frozen BK290.out 0; have hfz17_1 := blk_frozen BK290.out 1; have hfz17_2 := blk_frozen BK290.out 2; have hfz17_3 := blk_frozen BK290.out 3; have hfz17_4 := blk_frozen BK290.out 4; have hfz17_5 := blk_frozen BK290.out 5; have hfz17_6 := blk_frozen BK290.out 6; have hfz17_7 := blk_frozen BK290.out 7; have hfz17_8 := blk_frozen BK290.out 8; have hfz17_9 := blk_frozen BK290.out 9) | (obtain ⟨w16f, hgw_⟩ : ∃ y, y = (World.setCell (World.setCell (World.setCell (World.setCell w16 ⟨gb290, 0, none⟩ (.int .i64 t291)) ⟨gb290, 1, none⟩ (.int .i64 t292)) ⟨gb290, 2, none⟩ (.bool t293)) ⟨gb290, 3, none⟩ (.bool true)) := ⟨_, rfl⟩; rw [← hgw_]; have m0_ := Aside0.mk (show w16f.heap[gb290]? = some (.cells #[.int .i64 t291, .int .i64 t292, .bool t293, .bool true, .int .i64 a0_4, .int .i64 a0_5, .int .i64 a0_6, .int .u32 a0_7, .int .u32 a0_8, .string a0_9] 24 (0, 0)) from (by rw [hgw_]; refine blk_put (cs := #[.int .i64 t291, .int .i64 t292, .bool t293, .bool a0_3, .int .i64 a0_4, .int .i64 a0_5, .int .i64 a0_6, .int .u32 a0_7, .int .u32 a0_8, .string a0_9]) ?_ 3 _ rfl; (with_reducible repeat (first | refine blk_drewN ?_ _ | refine blk_drew ?_ | refine blk_alloc ?_ _)); refine blk_put (cs := #[.int .i64 t291, .int .i64 t292, .bool a0_2, .bool a0_3, .int .i64 a0_4, .int .i64 a0_5, .int .i64 a0_6, .int .u32 a0_7, .int .u32 a0_8, .string a0_9]) ?_ 2 _ rfl; (with_reducible repeat (first | refine blk_drewN ?_ _ | refine blk_drew ?_ | refine blk_alloc ?_ _)); refine blk_put (cs := #[.int .i64 t291, .int .i64 a0_1, .bool a0_2, .bool a0_3, .int .i64 a0_4, .int .i64 a0_5, .int .i64 a0_6, .int .u32 a0_7, .int .u32 a0_8, .string a0_9]) ?_ 1 _ rfl; (with_reducible repeat (first | refine blk_drewN ?_ _ | refine blk_drew ?_ | refine blk_alloc ?_ _)); refine blk_put (cs := #[.int .i64 a0_0, .int .i64 a0_1, .bool a0_2, .bool a0_3, .int .i64 a0_4, .int .i64 a0_5, .int .i64 a0_6, .int .u32 a0_7, .int .u32 a0_8, .string a0_9]) ?_ 0 _ rfl; (with_reducible repeat (first | refine blk_drewN ?_ _ | refine blk_drew ?_ | refine blk_alloc ?_ _)); exact BK290.out)); have mb_ := Aside0.mk (show Below w.heap.size w w16f from (by rw [hgw_]; exact (by repeat (first | (with_reducible first | exact HB.out | apply below_alloc | apply pw_below_drewN | apply below_drew1 | refine below_set ?_ GE290.out) | exact HB.out)))); clear BK290; have BK290 := m0_; clear m0_; clear HB; have HB := mb_; clear mb_; clear hgw_; have hcf290_0 : w16f.cell? ⟨gb290, 0, none⟩ = some (.int .i64 t291) := (blk_cell BK290.out 0).trans rfl; have hcf290_1 : w16f.cell? ⟨gb290, 1, none⟩ = some (.int .i64 t292) := (blk_cell BK290.out 1).trans rfl; have hcf290_2 : w16f.cell? ⟨gb290, 2, none⟩ = some (.bool t293) := (blk_cell BK290.out 2).trans rfl; have hcf290_3 : w16f.cell? ⟨gb290, 3, none⟩ = some (.bool true) := (blk_cell BK290.out 3).trans rfl; have hcf290_4 : w16f.cell? ⟨gb290, 4, none⟩ = some (.int .i64 a0_4) := (blk_cell BK290.out 4).trans rfl; have hcf290_5 : w16f.cell? ⟨gb290, 5, none⟩ = some (.int .i64 a0_5) := (blk_cell BK290.out 5).trans rfl; have hcf290_6 : w16f.cell? ⟨gb290, 6, none⟩ = some (.int .i64 a0_6) := (blk_cell BK290.out 6).trans rfl; have hcf290_7 : w16f.cell? ⟨gb290, 7, none⟩ = some (.int .u32 a0_7) := (blk_cell BK290.out 7).trans rfl; have hcf290_8 : w16f.cell? ⟨gb290, 8, none⟩ = some (.int .u32 a0_8) := (blk_cell BK290.out 8).trans rfl; have hcf290_9 : w16f.cell? ⟨gb290, 9, none⟩ = some (.string a0_9) := (blk_cell BK290.out 9).trans rfl; have hff290_0 := blk_frozen BK290.out 0; have hff290_1 := blk_frozen BK290.out 1; have hff290_2 := blk_frozen BK290.out 2; have hff290_3 := blk_frozen BK290.out 3; have hff290_4 := blk_frozen BK290.out 4; have hff290_5 := blk_frozen BK290.out 5; have hff290_6 := blk_frozen BK290.out 6; have hff290_7 := blk_frozen BK290.out 7; have hff290_8 := blk_frozen BK290.out 8; have hff290_9 := blk_frozen BK290.out 9) | ((with_reducible refine gate_callee (f := 10) rfl ?_); refine goesL_ (some 11) rfl rfl Tryd.func10 (by kernel_rfl) rfl #[.agg #[.int .i64 t291, .int .i64 t292, .bool t293, .bool true, .int .i64 t295, .int .i64 t296, .int .i64 t297, .int .u32 t298, .int .u32 t299, .string t300]] rfl (by (try simp only [List.map_toArray, List.map_cons, List.map_nil]); first | done | rfl | (simp only [List.length_drop, List.length_take]; rfl)) ?_; (with_reducible refine (inet_Build.calls k t291 t292 t293 true t295 t296 t297 t298 t299 t300 t301 t302 _ A3.out).mono ?_); rintro e w18 ⟨rfl, hb⟩; refine ⟨_, rfl, ?_⟩; have n0_ := Aside0.mk (blk_below (g := gb290) (o := .cells #[.int .i64 t291, .int .i64 t292, .bool t293, .bool true, .int .i64 t295, .int .i64 t296, .int .i64 t297, .int .u32 t298, .int .u32 t299, .string t300] 24 (0, 0)) (by (with_reducible repeat (first | refine blk_drewN ?_ _ | refine blk_drew ?_ | refine blk_alloc ?_ _)); refine blk_put (cs := #[.int .i64 t291, .int .i64 t292, .bool t293, .bool true, .int .i64 t295, .int .i64 t296, .int .i64 t297, .int .u32 t298, .int .u32 t299, .string a0_9]) ?_ 9 _ rfl; (with_reducible repeat (first | refine blk_drewN ?_ _ | refine blk_drew ?_ | refine blk_alloc ?_ _)); refine blk_put (cs := #[.int .i64 t291, .int .i64 t292, .bool t293, .bool true, .int .i64 t295, .int .i64 t296, .int .i64 t297, .int .u32 t298, .int .u32 a0_8, .string a0_9]) ?_ 8 _ rfl; (with_reducible repeat (first | refine blk_drewN ?_ _ | refine blk_drew ?_ | refine blk_alloc ?_ _)); refine blk_put (cs := #[.int .i64 t291, .int .i64 t292, .bool t293, .bool true, .int .i64 t295, .int .i64 t296, .int .i64 t297, .int .u32 a0_7, .int .u32 a0_8, .string a0_9]) ?_ 7 _ rfl; (with_reducible repeat (first | refine blk_drewN ?_ _ | refine blk_drew ?_ | refine blk_alloc ?_ _)); refine blk_put (cs := #[.int .i64 t291, .int .i64 t292, .bool t293, .bool true, .int .i64 t295, .int .i64 t296, .int .i64 a0_6, .int .u32 a0_7, .int .u32 a0_8, .string a0_9]) ?_ 6 _ rfl; (with_reducible repeat (first | refine blk_drewN ?_ _ | refine blk_drew ?_ | refine blk_alloc ?_ _)); refine blk_put (cs := #[.int .i64 t291, .int .i64 t292, .bool t293, .bool true, .int .i64 t295, .int .i64 a0_5, .int .i64 a0_6, .int .u32 a0_7, .int .u32 a0_8, .string a0_9]) ?_ 5 _ rfl; (with_reducible repeat (first | refine blk_drewN ?_ _ | refine blk_drew ?_ | refine blk_alloc ?_ _)); refine blk_put (cs := #[.int .i64 t291, .int .i64 t292, .bool t293, .bool true, .int .i64 a0_4, .int .i64 a0_5, .int .i64 a0_6, .int .u32 a0_7, .int .u32 a0_8, .string a0_9]) ?_ 4 _ rfl; (with_reducible repeat (first | refine blk_drewN ?_ _ | refine blk_drew ?_ | refine blk_alloc ?_ _)); exact BK290.out) hb); have n1_ := Aside0.mk (below_step (by repeat (first | (with_reducible first | exact HB.out | apply below_alloc | apply pw_below_drewN | apply below_drew1 | refine below_set ?_ GE290.out) | exact HB.out)) hb); clear BK290; clear HB; have BK290 := n0_; have HB := n1_; clear n0_ n1_; have hcy2_290_0 := (show World.cell? _ ⟨gb290, 0, none⟩ = some (.int .i64 t291) from (blk_cell BK290.out 0).trans rfl); have hcy2_290_1 := (show World.cell? _ ⟨gb290, 1, none⟩ = some (.int .i64 t292) from (blk_cell BK290.out 1).trans rfl); have hcy2_290_2 := (show World.cell? _ ⟨gb290, 2, none⟩ = some (.bool t293) from (blk_cell BK290.out 2).trans rfl); have hcy2_290_3 := (show World.cell? _ ⟨gb290, 3, none⟩ = some (.bool true) from (blk_cell BK290.out 3).trans rfl); have hcy2_290_4 := (show World.cell? _ ⟨gb290, 4, none⟩ = some (.int .i64 t295) from (blk_cell BK290.out 4).trans rfl); have hcy2_290_5 := (show World.cell? _ ⟨gb290, 5, none⟩ = some (.int .i64 t296) from (blk_cell BK290.out 5).trans rfl); have hcy2_290_6 := (show World.cell? _ ⟨gb290, 6, none⟩ = some (.int .i64 t297) from (blk_cell BK290.out 6).trans rfl); have hcy2_290_7 := (show World.cell? _ ⟨gb290, 7, none⟩ = some (.int .u32 t298) from (blk_cell BK290.out 7).trans rfl); have hcy2_290_8 := (show World.cell? _ ⟨gb290, 8, none⟩ = some (.int .u32 t299) from (blk_cell BK290.out 8).trans rfl); have hcy2_290_9 := (show World.cell? _ ⟨gb290, 9, none⟩ = some (.string t300) from (blk_cell BK290.out 9).trans rfl); (try clear hb); (try clear hb2); (try clear hk); (try clear hi); have hcz19_0 : w18.cell? ⟨gb290, 0, none⟩ = some (.int .i64 t291) := (blk_cell BK290.out 0).trans rfl; have hcz19_1 : w18.cell? ⟨gb290, 1, none⟩ = some (.int .i64 t292) := (blk_cell BK290.out 1).trans rfl; have hcz19_2 : w18.cell? ⟨gb290, 2, none⟩ = some (.bool t293) := (blk_cell BK290.out 2).trans rfl; have hcz19_3 : w18.cell? ⟨gb290, 3, none⟩ = some (.bool true) := (blk_cell BK290.out 3).trans rfl; have hcz19_4 : w18.cell? ⟨gb290, 4, none⟩ = some (.int .i64 t295) := (blk_cell BK290.out 4).trans rfl; have hcz19_5 : w18.cell? ⟨gb290, 5, none⟩ = some (.int .i64 t296) := (blk_cell BK290.out 5).trans rfl; have hcz19_6 : w18.cell? ⟨gb290, 6, none⟩ = some (.int .i64 t297) := (blk_cell BK290.out 6).trans rfl; have hcz19_7 : w18.cell? ⟨gb290, 7, none⟩ = some (.int .u32 t298) := (blk_cell BK290.out 7).trans rfl; have hcz19_8 : w18.cell? ⟨gb290, 8, none⟩ = some (.int .u32 t299) := (blk_cell BK290.out 8).trans rfl; have hcz19_9 : w18.cell? ⟨gb290, 9, none⟩ = some (.string t300) := (blk_cell BK290.out 9).trans rfl; have hfz19_0 := blk_frozen BK290.out 0; have hfz19_1 := blk_frozen BK290.out 1; have hfz19_2 := blk_frozen BK290.out 2; have hfz19_3 := blk_frozen BK290.out 3; have hfz19_4 := blk_frozen BK290.out 4; have hfz19_5 := blk_frozen BK290.out 5; have hfz19_6 := blk_frozen BK290.out 6; have hfz19_7 := blk_frozen BK290.out 7; have hfz19_8 := blk_frozen BK290.out 8; have hfz19_9 := blk_frozen BK290.out 9) | ((with_reducible refine gate_callee (f := 11) rfl ?_); refine goesL_ (some 16) rfl rfl Tryd.func11 (by kernel_rfl) rfl #[.agg #[.int .i64 t291, .int .i64 t292, .bool t293, .bool true, .int .i64 t295, .int .i64 t296, .int .i64 t297, .int .u32 t298, .int .u32 t299, .string t300]] rfl (by (try simp only [List.map_toArray, List.map_cons, List.map_nil]); first | done | rfl | (simp only [List.length_drop, List.length_take]; rfl)) ?_; (with_reducible refine (gangwayref06_Build.calls k t291 t292 t293 true t295 t296 t297 t298 t299 t300 t303 t304 _ A4.out).mono ?_); rintro e w20 ⟨rfl, hb⟩; refine ⟨_, rfl, ?_⟩; have n0_ := Aside0.mk (blk_below (g := gb290) (o := .cells #[.int .i64 t291, .int .i64 t292, .bool t293, .bool true, .int .i64 t295, .int .i64 t296, .int .i64 t297, .int .u32 t298, .int .u32 t299, .string t300] 24 (0, 0)) (by (with_reducible repeat (first | refine blk_drewN ?_ _ | refine blk_drew ?_ | refine blk_alloc ?_ _)); exact BK290.out) hb); have n1_ := Aside0.mk (below_step (by repeat (first | (with_reducible first | exact HB.out | apply below_alloc | apply pw_below_drewN | apply below_drew1 | refine below_set ?_ GE290.out) | exact HB.out)) hb); clear BK290; clear HB; have BK290 := n0_; have HB := n1_; clear n0_ n1_; have hcy3_290_0 := (show World.cell? _ ⟨gb290, 0, none⟩ = some (.int .i64 t291) from (blk_cell BK290.out 0).trans rfl); have hcy3_290_1 := (show World.cell? _ ⟨gb290, 1, none⟩ = some (.int .i64 t292) from (blk_cell BK290.out 1).trans rfl); have hcy3_290_2 := (show World.cell? _ ⟨gb290, 2, none⟩ = some (.bool t293) from (blk_cell BK290.out 2).trans rfl); have hcy3_290_3 := (show World.cell? _ ⟨gb290, 3, none⟩ = some (.bool true) from (blk_cell BK290.out 3).trans rfl); have hcy3_290_4 := (show World.cell? _ ⟨gb290, 4, none⟩ = some (.int .i64 t295) from (blk_cell BK290.out 4).trans rfl); have hcy3_290_5 := (show World.cell? _ ⟨gb290, 5, none⟩ = some (.int .i64 t296) from (blk_cell BK290.out 5).trans rfl); have hcy3_290_6 := (show World.cell? _ ⟨gb290, 6, none⟩ = some (.int .i64 t297) from (blk_cell BK290.out 6).trans rfl); have hcy3_290_7 := (show World.cell? _ ⟨gb290, 7, none⟩ = some (.int .u32 t298) from (blk_cell BK290.out 7).trans rfl); have hcy3_290_8 := (show World.cell? _ ⟨gb290, 8, none⟩ = some (.int .u32 t299) from (blk_cell BK290.out 8).trans rfl); have hcy3_290_9 := (show World.cell? _ ⟨gb290, 9, none⟩ = some (.string t300) from (blk_cell BK290.out 9).trans rfl); (try clear hb); (try clear hb2); (try clear hk); (try clear hi)))
      have n0_ := Aside0.mk (blk_drew BK290.out)
      have n1_ := Aside0.mk (below_drew1 HB.out)
      clear BK290
      clear HB
      have BK290 := n0_
      have HB := n1_
      clear n0_ n1_
      refine start_ (n := 31) (S := fun w' => w'.cell? ⟨gb290, 0, none⟩ = some (.int .i64 t291) ∧ w'.cell? ⟨gb290, 1, none⟩ = some (.int .i64 t292) ∧ w'.cell? ⟨gb290, 2, none⟩ = some (.bool t293) ∧ w'.cell? ⟨gb290, 3, none⟩ = some (.bool true) ∧ w'.cell? ⟨gb290, 4, none⟩ = some (.int .i64 t295) ∧ w'.cell? ⟨gb290, 5, none⟩ = some (.int .i64 t296) ∧ w'.cell? ⟨gb290, 6, none⟩ = some (.int .i64 t297) ∧ w'.cell? ⟨gb290, 7, none⟩ = some (.int .u32 t298) ∧ w'.cell? ⟨gb290, 8, none⟩ = some (.int .u32 t299) ∧ w'.cell? ⟨gb290, 9, none⟩ = some (.string t300)) (ds := []) #[false, false, false, false, false, false, false, false, false, false, false, false, false, false, false, false, false, false, false, false, false, false, false, false, false, false, false, false, false, false, false] (by kernel_rfl) rfl rfl ⟨(blk_cell BK290.out 0).trans rfl, (blk_cell BK290.out 1).trans rfl, (blk_cell BK290.out 2).trans rfl, (blk_cell BK290.out 3).trans rfl, (blk_cell BK290.out 4).trans rfl, (blk_cell BK290.out 5).trans rfl, (blk_cell BK290.out 6).trans rfl, (blk_cell BK290.out 7).trans rfl, (blk_cell BK290.out 8).trans rfl, (blk_cell BK290.out 9).trans rfl⟩ (fun hHeld => ?_); refine with_tabW gangwaylaw06_InetBuilds.tab4 gangwaylaw06_InetBuilds.bits4 (fun HT_ HW_ => ?_)
      generalize w20.drew = w21 at BK290 HB hHeld ⊢
      refine one_ (i := 0) (N := some 19) #[true, false, false, false, false, false, false, false, false, false, false, false, false, false, false, false, false, false, false, false, false, false, false, false, false, false, false, false, false, false, false] rfl rfl (one_of HT_.out (by kernel_rfl)) (by decide) (fun K hK => ?_)
      refine goes_ Tryd.func12 (by kernel_rfl) rfl #[] (by first | rfl | exact wanted_on rfl rfl rfl (by first | rfl | (simp [*]; done) | (simp [*, IntKind.wrap_u32]; done))) rfl rfl (by (try simp only [List.map_toArray, List.map_cons, List.map_nil]); first | done | rfl | (simp only [List.length_drop, List.length_take]; rfl)) ?_
      with_reducible refine (gangwaylaw06_fixed.calls k  true _ ?sideL A5.out).mono ?_
      case sideL => exact laid_below HLD.out (by repeat (first | (with_reducible first | exact HB.out | apply below_alloc | apply pw_below_drewN | apply below_drew1 | refine below_set ?_ GE290.out) | exact HB.out))
      rintro e w22 ⟨rfl, hb⟩
      refine ⟨_, rfl, ?_⟩
      have n0_ := Aside0.mk (blk_below (g := gb290) (o := .cells #[.int .i64 t291, .int .i64 t292, .bool t293, .bool true, .int .i64 t295, .int .i64 t296, .int .i64 t297, .int .u32 t298, .int .u32 t299, .string t300] 24 (0, 0)) (by (with_reducible repeat (first | refine blk_drewN ?_ _ | refine blk_drew ?_ | refine blk_alloc ?_ _)); exact BK290.out) hb)
      have n1_ := Aside0.mk (below_step (by repeat (first | (with_reducible first | exact HB.out | apply below_alloc | apply pw_below_drewN | apply below_drew1 | refine below_set ?_ GE290.out) | exact HB.out)) hb)
      clear BK290
      clear HB
      have BK290 := n0_
      have HB := n1_
      clear n0_ n1_
      (try clear hb)
      (try clear hb2)
      (try clear hk)
      (try clear hi)
      refine hK.out _ _ ⟨(blk_cell BK290.out 0).trans rfl, (blk_cell BK290.out 1).trans rfl, (blk_cell BK290.out 2).trans rfl, (blk_cell BK290.out 3).trans rfl, (blk_cell BK290.out 4).trans rfl, (blk_cell BK290.out 5).trans rfl, (blk_cell BK290.out 6).trans rfl, (blk_cell BK290.out 7).trans rfl, (blk_cell BK290.out 8).trans rfl, (blk_cell BK290.out 9).trans rfl⟩ (fun hHeld => ?_)
      clear hK K
      refine norm_ (a' := ?_) ?_ ?_
      rotate_left
      ·show Act.put _ (some 19) _ = _
       simp only [Act.put, List.setIfInBounds_toArray, List.set_cons_zero, List.set_cons_succ, i64_w, i32_w]
       rfl
      refine pure_ (i := 1) (N := some 20) (v := ?_) (a' := ?_) #[true, true, false, false, false, false, false, false, false, false, false, false, false, false, false, false, false, false, false, false, false, false, false, false, false, false, false, false, false, false, false] rfl rfl (any_of HT_.out (by kernel_rfl)) (fun _ _ _ h => h) (Or.inl ⟨by rfl, ?_⟩) ?_ ?_
      rotate_left
      ·intro w'
       go_simp
       first | with_reducible rfl | (rw [if_neg (by (try simp only [decide_eq_true_eq, ByteArray.size_append, ByteArray.size_extract, eq_iff_iff, iff_true, iff_false, Nat.not_lt] at *); omega)]; try with_reducible rfl)
      rotate_left
      ·simp only [Act.put, List.setIfInBounds_toArray, List.set_cons_zero, List.set_cons_succ, i64_w, i32_w]
       rfl
      refine pure_ (i := 2) (N := some 21) (v := ?_) (a' := ?_) #[true, true, true, false, false, false, false, false, false, false, false, false, false, false, false, false, false, false, false, false, false, false, false, false, false, false, false, false, false, false, false] rfl rfl (any_of HT_.out (by kernel_rfl)) (fun _ _ _ h => h) (Or.inl ⟨by rfl, ?_⟩) ?_ ?_
      rotate_left
      ·intro w'
       go_simp
       first | with_reducible rfl | (rw [if_neg (by (try simp only [decide_eq_true_eq, ByteArray.size_append, ByteArray.size_extract, eq_iff_iff, iff_true, iff_false, Nat.not_lt] at *); omega)]; try with_reducible rfl)
      rotate_left
      ·simp only [Act.put, List.setIfInBounds_toArray, List.set_cons_zero, List.set_cons_succ, i64_w, i32_w]
       rfl
      refine pure_ (i := 3) (N := some 22) (v := ?_) (a' := ?_) #[true, true, true, true, false, false, false, false, false, false, false, false, false, false, false, false, false, false, false, false, false, false, false, false, false, false, false, false, false, false, false] rfl rfl (any_of HT_.out (by kernel_rfl)) (fun _ _ _ h => h) (Or.inl ⟨by rfl, ?_⟩) ?_ ?_
      rotate_left
      ·intro w'
       go_simp
       first | with_reducible rfl | (rw [if_neg (by (try simp only [decide_eq_true_eq, ByteArray.size_append, ByteArray.size_extract, eq_iff_iff, iff_true, iff_false, Nat.not_lt] at *); omega)]; try with_reducible rfl)
      rotate_left
      ·simp only [Act.put, List.setIfInBounds_toArray, List.set_cons_zero, List.set_cons_succ, i64_w, i32_w]
       rfl
      refine pure_ (i := 4) (N := some 23) (v := ?_) (a' := ?_) #[true, true, true, true, true, false, false, false, false, false, false, false, false, false, false, false, false, false, false, false, false, false, false, false, false, false, false, false, false, false, false] rfl rfl (any_of HT_.out (by kernel_rfl)) (fun _ _ _ h => h) (Or.inl ⟨by rfl, ?_⟩) ?_ ?_
      rotate_left
      ·intro w'
       go_simp
       first | with_reducible rfl | (rw [if_neg (by (try simp only [decide_eq_true_eq, ByteArray.size_append, ByteArray.size_extract, eq_iff_iff, iff_true, iff_false, Nat.not_lt] at *); omega)]; try with_reducible rfl)
      rotate_left
      ·simp only [Act.put, List.setIfInBounds_toArray, List.set_cons_zero, List.set_cons_succ, i64_w, i32_w]
       rfl
      refine pure_ (i := 5) (N := some 24) (v := ?_) (a' := ?_) #[true, true, true, true, true, true, false, false, false, false, false, false, false, false, false, false, false, false, false, false, false, false, false, false, false, false, false, false, false, false, false] rfl rfl (any_of HT_.out (by kernel_rfl)) (fun _ _ _ h => h) (Or.inl ⟨by rfl, ?_⟩) ?_ ?_
      rotate_left
      ·intro w'
       go_simp
       first | with_reducible rfl | (rw [if_neg (by (try simp only [decide_eq_true_eq, ByteArray.size_append, ByteArray.size_extract, eq_iff_iff, iff_true, iff_false, Nat.not_lt] at *); omega)]; try with_reducible rfl)
      rotate_left
      ·simp only [Act.put, List.setIfInBounds_toArray, List.set_cons_zero, List.set_cons_succ, i64_w, i32_w]
       rfl
      refine pure_ (i := 6) (N := some 25) (v := ?_) (a' := ?_) #[true, true, true, true, true, true, true, false, false, false, false, false, false, false, false, false, false, false, false, false, false, false, false, false, false, false, false, false, false, false, false] rfl rfl (any_of HT_.out (by kernel_rfl)) (fun _ _ _ h => h) (Or.inl ⟨by rfl, ?_⟩) ?_ ?_
      rotate_left
      ·intro w'
       go_simp
       first | with_reducible rfl | (rw [if_neg (by (try simp only [decide_eq_true_eq, ByteArray.size_append, ByteArray.size_extract, eq_iff_iff, iff_true, iff_false, Nat.not_lt] at *); omega)]; try with_reducible rfl)
      rotate_left
      ·simp only [Act.put, List.setIfInBounds_toArray, List.set_cons_zero, List.set_cons_succ, i64_w, i32_w]
       rfl
      refine pure_ (i := 7) (N := some 26) (v := ?_) (a' := ?_) #[true, true, true, true, true, true, true, true, false, false, false, false, false, false, false, false, false, false, false, false, false, false, false, false, false, false, false, false, false, false, false] rfl rfl (any_of HT_.out (by kernel_rfl)) (fun _ _ _ h => h) (Or.inl ⟨by rfl, ?_⟩) ?_ ?_
      rotate_left
      ·intro w'
       go_simp
       first | with_reducible rfl | (rw [if_neg (by (try simp only [decide_eq_true_eq, ByteArray.size_append, ByteArray.size_extract, eq_iff_iff, iff_true, iff_false, Nat.not_lt] at *); omega)]; try with_reducible rfl)
      rotate_left
      ·simp only [Act.put, List.setIfInBounds_toArray, List.set_cons_zero, List.set_cons_succ, i64_w, i32_w]
       rfl
      refine pure_ (i := 8) (N := some 27) (v := ?_) (a' := ?_) #[true, true, true, true, true, true, true, true, true, false, false, false, false, false, false, false, false, false, false, false, false, false, false, false, false, false, false, false, false, false, false] rfl rfl (any_of HT_.out (by kernel_rfl)) (fun _ _ _ h => h) (Or.inl ⟨by rfl, ?_⟩) ?_ ?_
      rotate_left
      ·intro w'
       go_simp
       first | with_reducible rfl | (rw [if_neg (by (try simp only [decide_eq_true_eq, ByteArray.size_append, ByteArray.size_extract, eq_iff_iff, iff_true, iff_false, Nat.not_lt] at *); omega)]; try with_reducible rfl)
      rotate_left
      ·simp only [Act.put, List.setIfInBounds_toArray, List.set_cons_zero, List.set_cons_succ, i64_w, i32_w]
       rfl
      refine pure_ (i := 9) (N := some 28) (v := ?_) (a' := ?_) #[true, true, true, true, true, true, true, true, true, true, false, false, false, false, false, false, false, false, false, false, false, false, false, false, false, false, false, false, false, false, false] rfl rfl (any_of HT_.out (by kernel_rfl)) (fun _ _ _ h => h) (Or.inl ⟨by rfl, ?_⟩) ?_ ?_
      rotate_left
      ·intro w'
       go_simp
       first | with_reducible rfl | (rw [if_neg (by (try simp only [decide_eq_true_eq, ByteArray.size_append, ByteArray.size_extract, eq_iff_iff, iff_true, iff_false, Nat.not_lt] at *); omega)]; try with_reducible rfl)
      rotate_left
      ·simp only [Act.put, List.setIfInBounds_toArray, List.set_cons_zero, List.set_cons_succ, i64_w, i32_w]
       rfl
      refine pure_ (i := 10) (N := some 29) (v := ?_) (a' := ?_) #[true, true, true, true, true, true, true, true, true, true, true, false, false, false, false, false, false, false, false, false, false, false, false, false, false, false, false, false, false, false, false] rfl rfl (any_of HT_.out (by kernel_rfl)) (fun _ _ _ h => h) (Or.inl ⟨by rfl, ?_⟩) ?_ ?_
      rotate_left
      ·intro w'
       go_simp
       first | with_reducible rfl | (rw [if_neg (by (try simp only [decide_eq_true_eq, ByteArray.size_append, ByteArray.size_extract, eq_iff_iff, iff_true, iff_false, Nat.not_lt] at *); omega)]; try with_reducible rfl)
      rotate_left
      ·simp only [Act.put, List.setIfInBounds_toArray, List.set_cons_zero, List.set_cons_succ, i64_w, i32_w]
       rfl
      refine pure_ (i := 11) (N := some 30) (v := ?_) (a' := ?_) #[true, true, true, true, true, true, true, true, true, true, true, true, false, false, false, false, false, false, false, false, false, false, false, false, false, false, false, false, false, false, false] rfl rfl (any_of HT_.out (by kernel_rfl)) (fun _ _ _ h => h) (Or.inl ⟨by rfl, ?_⟩) ?_ ?_
      rotate_left
      ·intro w'
       go_simp
       first | with_reducible rfl | (rw [if_neg (by (try simp only [decide_eq_true_eq, ByteArray.size_append, ByteArray.size_extract, eq_iff_iff, iff_true, iff_false, Nat.not_lt] at *); omega)]; try with_reducible rfl)
      rotate_left
      ·simp only [Act.put, List.setIfInBounds_toArray, List.set_cons_zero, List.set_cons_succ, i64_w, i32_w]
       rfl
      refine take_ (i := 12) (N := some 31) (v := ?_) (a' := ?_) #[true, true, true, true, true, true, true, true, true, true, true, true, true, false, false, false, false, false, false, false, false, false, false, false, false, false, false, false, false, false, false] rfl rfl (take_ofW HT_.out HW_.out (by kernel_rfl)) (fun _ _ _ h => h) (Or.inl ⟨by rfl, ?_⟩) hHeld ?_ ?_
      rotate_left
      ·rintro w' ⟨s0, s1, s2, s3, s4, s5, s6, s7, s8, s9⟩
       go_simp
       with_reducible rfl
      rotate_left
      ·simp only [Act.put, List.setIfInBounds_toArray, List.set_cons_zero, List.set_cons_succ, i64_w, i32_w]
       rfl
      refine take_ (i := 14) (N := some 33) (v := ?_) (a' := ?_) #[true, true, true, true, true, true, true, true, true, true, true, true, true, false, true, false, false, false, false, false, false, false, false, false, false, false, false, false, false, false, false] rfl rfl (take_ofW HT_.out HW_.out (by kernel_rfl)) (fun _ _ _ h => h) (Or.inl ⟨by rfl, ?_⟩) hHeld ?_ ?_
      rotate_left
      ·rintro w' ⟨s0, s1, s2, s3, s4, s5, s6, s7, s8, s9⟩
       go_simp
       with_reducible rfl
      rotate_left
      ·simp only [Act.put, List.setIfInBounds_toArray, List.set_cons_zero, List.set_cons_succ, i64_w, i32_w]
       rfl
      refine one_ (i := 13) (N := some 32) #[true, true, true, true, true, true, true, true, true, true, true, true, true, true, true, false, false, false, false, false, false, false, false, false, false, false, false, false, false, false, false] rfl rfl (one_of HT_.out (by kernel_rfl)) (by decide) (fun K hK => ?_)
      refine goes_ Tryd.func13 (by kernel_rfl) rfl #[.agg #[.int .i64 t291, .int .i64 t292, .bool t293, .bool true, .int .i64 t295, .int .i64 t296, .int .i64 t297, .int .u32 t298, .int .u32 t299, .string t300]] (by first | rfl | exact wanted_on rfl rfl rfl (by first | rfl | (simp [*]; done) | (simp [*, IntKind.wrap_u32]; done))) rfl rfl (by (try simp only [List.map_toArray, List.map_cons, List.map_nil]); first | done | rfl | (simp only [List.length_drop, List.length_take]; rfl)) ?_
      with_reducible refine (inet_Check.calls t291 t292 t293 true t295 t296 t297 t298 t299 t300 t306 _ A9.out).mono ?_
      rintro e w23 ⟨rfl, hb⟩
      refine ⟨_, rfl, ?_⟩
      have n0_ := Aside0.mk (blk_below (g := gb290) (o := .cells #[.int .i64 t291, .int .i64 t292, .bool t293, .bool true, .int .i64 t295, .int .i64 t296, .int .i64 t297, .int .u32 t298, .int .u32 t299, .string t300] 24 (0, 0)) (by (with_reducible repeat (first | refine blk_drewN ?_ _ | refine blk_drew ?_ | refine blk_alloc ?_ _)); exact BK290.out) hb)
      have n1_ := Aside0.mk (below_step (by repeat (first | (with_reducible first | exact HB.out | apply below_alloc | apply pw_below_drewN | apply below_drew1 | refine below_set ?_ GE290.out) | exact HB.out)) hb)
      clear BK290
      clear HB
      have BK290 := n0_
      have HB := n1_
      clear n0_ n1_
      (try clear hb)
      (try clear hb2)
      (try clear hk)
      (try clear hi)
      refine hK.out _ _ ⟨(blk_cell BK290.out 0).trans rfl, (blk_cell BK290.out 1).trans rfl, (blk_cell BK290.out 2).trans rfl, (blk_cell BK290.out 3).trans rfl, (blk_cell BK290.out 4).trans rfl, (blk_cell BK290.out 5).trans rfl, (blk_cell BK290.out 6).trans rfl, (blk_cell BK290.out 7).trans rfl, (blk_cell BK290.out 8).trans rfl, (blk_cell BK290.out 9).trans rfl⟩ (fun hHeld => ?_)
      clear hK K
      refine norm_ (a' := ?_) ?_ ?_
      rotate_left
      ·show Act.put _ (some 32) _ = _
       simp only [Act.put, List.setIfInBounds_toArray, List.set_cons_zero, List.set_cons_succ, i64_w, i32_w]
       rfl
      refine one_ (i := 15) (N := some 34) #[true, true, true, true, true, true, true, true, true, true, true, true, true, true, true, true, false, false, false, false, false, false, false, false, false, false, false, false, false, false, false] rfl rfl (one_of HT_.out (by kernel_rfl)) (by decide) (fun K hK => ?_)
      refine goes_ Tryd.func14 (by kernel_rfl) rfl #[.agg #[.int .i64 t291, .int .i64 t292, .bool t293, .bool true, .int .i64 t295, .int .i64 t296, .int .i64 t297, .int .u32 t298, .int .u32 t299, .string t300]] (by first | rfl | exact wanted_on rfl rfl rfl (by first | rfl | (simp [*]; done) | (simp [*, IntKind.wrap_u32]; done))) rfl rfl (by (try simp only [List.map_toArray, List.map_cons, List.map_nil]); first | done | rfl | (simp only [List.length_drop, List.length_take]; rfl)) ?_
      with_reducible refine (gangwayref06_Check.calls t291 t292 t293 true t295 t296 t297 t298 t299 t300 t307 _ A10.out).mono ?_
      rintro e w24 ⟨rfl, hb⟩
      refine ⟨_, rfl, ?_⟩
      have n0_ := Aside0.mk (blk_below (g := gb290) (o := .cells #[.int .i64 t291, .int .i64 t292, .bool t293, .bool true, .int .i64 t295, .int .i64 t296, .int .i64 t297, .int .u32 t298, .int .u32 t299, .string t300] 24 (0, 0)) (by (with_reducible repeat (first | refine blk_drewN ?_ _ | refine blk_drew ?_ | refine blk_alloc ?_ _)); exact BK290.out) hb)
      have n1_ := Aside0.mk (below_step (by repeat (first | (with_reducible first | exact HB.out | apply below_alloc | apply pw_below_drewN | apply below_drew1 | refine below_set ?_ GE290.out) | exact HB.out)) hb)
      clear BK290
      clear HB
      have BK290 := n0_
      have HB := n1_
      clear n0_ n1_
      (try clear hb)
      (try clear hb2)
      (try clear hk)
      (try clear hi)
      refine hK.out _ _ ⟨(blk_cell BK290.out 0).trans rfl, (blk_cell BK290.out 1).trans rfl, (blk_cell BK290.out 2).trans rfl, (blk_cell BK290.out 3).trans rfl, (blk_cell BK290.out 4).trans rfl, (blk_cell BK290.out 5).trans rfl, (blk_cell BK290.out 6).trans rfl, (blk_cell BK290.out 7).trans rfl, (blk_cell BK290.out 8).trans rfl, (blk_cell BK290.out 9).trans rfl⟩ (fun hHeld => ?_)
      clear hK K
      refine norm_ (a' := ?_) ?_ ?_
      rotate_left
      ·show Act.put _ (some 34) _ = _
       simp only [Act.put, List.setIfInBounds_toArray, List.set_cons_zero, List.set_cons_succ, i64_w, i32_w]
       rfl
      refine pure_ (i := 16) (N := some 35) (v := ?_) (a' := ?_) #[true, true, true, true, true, true, true, true, true, true, true, true, true, true, true, true, true, false, false, false, false, false, false, false, false, false, false, false, false, false, false] rfl rfl (any_of HT_.out (by kernel_rfl)) (fun _ _ _ h => h) (Or.inl ⟨by rfl, ?_⟩) ?_ ?_
      rotate_left
      ·intro w'
       go_simp
       first | with_reducible rfl | (rw [if_neg (by (try simp only [decide_eq_true_eq, ByteArray.size_append, ByteArray.size_extract, eq_iff_iff, iff_true, iff_false, Nat.not_lt] at *); omega)]; try with_reducible rfl)
      rotate_left
      ·simp only [Act.put, List.setIfInBounds_toArray, List.set_cons_zero, List.set_cons_succ, i64_w, i32_w]
       rfl
      refine pure_ (i := 17) (N := some 36) (v := ?_) (a' := ?_) #[true, true, true, true, true, true, true, true, true, true, true, true, true, true, true, true, true, true, false, false, false, false, false, false, false, false, false, false, false, false, false] rfl rfl (any_of HT_.out (by kernel_rfl)) (fun _ _ _ h => h) (Or.inl ⟨by rfl, ?_⟩) ?_ ?_
      rotate_left
      ·intro w'
       go_simp
       first | with_reducible rfl | (rw [if_neg (by (try simp only [decide_eq_true_eq, ByteArray.size_append, ByteArray.size_extract, eq_iff_iff, iff_true, iff_false, Nat.not_lt] at *); omega)]; try with_reducible rfl)
      rotate_left
      ·simp only [Act.put, List.setIfInBounds_toArray, List.set_cons_zero, List.set_cons_succ, i64_w, i32_w]
       rfl
      refine pure_ (i := 18) (N := some 37) (v := ?_) (a' := ?_) #[true, true, true, true, true, true, true, true, true, true, true, true, true, true, true, true, true, true, true, false, false, false, false, false, false, false, false, false, false, false, false] rfl rfl (any_of HT_.out (by kernel_rfl)) (fun _ _ _ h => h) (Or.inl ⟨by rfl, ?_⟩) ?_ ?_
      rotate_left
      ·intro w'
       go_simp
       first | with_reducible rfl | (rw [if_neg (by (try simp only [decide_eq_true_eq, ByteArray.size_append, ByteArray.size_extract, eq_iff_iff, iff_true, iff_false, Nat.not_lt] at *); omega)]; try with_reducible rfl)
      rotate_left
      ·simp only [Act.put, List.setIfInBounds_toArray, List.set_cons_zero, List.set_cons_succ, i64_w, i32_w]
       rfl
      refine pure_ (i := 21) (N := some 40) (v := ?_) (a' := ?_) #[true, true, true, true, true, true, true, true, true, true, true, true, true, true, true, true, true, true, true, false, false, true, false, false, false, false, false, false, false, false, false] rfl rfl (any_of HT_.out (by kernel_rfl)) (fun _ _ _ h => h) (Or.inl ⟨by rfl, ?_⟩) ?_ ?_
      rotate_left
      ·intro w'
       go_simp
       first | with_reducible rfl | (rw [if_neg (by (try simp only [decide_eq_true_eq, ByteArray.size_append, ByteArray.size_extract, eq_iff_iff, iff_true, iff_false, Nat.not_lt] at *); omega)]; try with_reducible rfl)
      rotate_left
      ·simp only [Act.put, List.setIfInBounds_toArray, List.set_cons_zero, List.set_cons_succ, i64_w, i32_w]
       rfl
      refine take_ (i := 19) (N := some 38) (v := ?_) (a' := ?_) #[true, true, true, true, true, true, true, true, true, true, true, true, true, true, true, true, true, true, true, true, false, true, false, false, false, false, false, false, false, false, false] rfl rfl (take_ofW HT_.out HW_.out (by kernel_rfl)) (fun _ _ _ h => h) (Or.inl ⟨by rfl, ?_⟩) hHeld ?_ ?_
      rotate_left
      ·rintro w' ⟨s0, s1, s2, s3, s4, s5, s6, s7, s8, s9⟩
       go_simp
       with_reducible rfl
      rotate_left
      ·simp only [Act.put, List.setIfInBounds_toArray, List.set_cons_zero, List.set_cons_succ, i64_w, i32_w]
       rfl
      refine take_ (i := 22) (N := some 41) (v := ?_) (a' := ?_) #[true, true, true, true, true, true, true, true, true, true, true, true, true, true, true, true, true, true, true, true, false, true, true, false, false, false, false, false, false, false, false] rfl rfl (take_ofW HT_.out HW_.out (by kernel_rfl)) (fun _ _ _ h => h) (Or.inl ⟨by rfl, ?_⟩) hHeld ?_ ?_
      rotate_left
      ·rintro w' ⟨s0, s1, s2, s3, s4, s5, s6, s7, s8, s9⟩
       go_simp
       with_reducible rfl
      rotate_left
      ·simp only [Act.put, List.setIfInBounds_toArray, List.set_cons_zero, List.set_cons_succ, i64_w, i32_w]
       rfl
      refine one_ (i := 20) (N := some 39) #[true, true, true, true, true, true, true, true, true, true, true, true, true, true, true, true, true, true, true, true, true, true, true, false, false, false, false, false, false, false, false] rfl rfl (one_of HT_.out (by kernel_rfl)) (by decide) (fun K hK => ?_)
      refine goes_ Tryd.func15 (by kernel_rfl) rfl #[.agg #[.int .i64 t291, .int .i64 t292, .bool t293, .bool true, .int .i64 t295, .int .i64 t296, .int .i64 t297, .int .u32 t298, .int .u32 t299, .string t300]] (by first | rfl | exact wanted_on rfl rfl rfl (by first | rfl | (simp [*]; done) | (simp [*, IntKind.wrap_u32]; done))) rfl rfl (by (try simp only [List.map_toArray, List.map_cons, List.map_nil]); first | done | rfl | (simp only [List.length_drop, List.length_take]; rfl)) ?_
      with_reducible refine (inet_Part.calls t291 t292 t293 true t295 t296 t297 t298 t299 t300 t308 _ A12.out).mono ?_
      rintro e w25 ⟨rfl, hb⟩
      refine ⟨_, rfl, ?_⟩
      have n0_ := Aside0.mk (blk_below (g := gb290) (o := .cells #[.int .i64 t291, .int .i64 t292, .bool t293, .bool true, .int .i64 t295, .int .i64 t296, .int .i64 t297, .int .u32 t298, .int .u32 t299, .string t300] 24 (0, 0)) (by (with_reducible repeat (first | refine blk_drewN ?_ _ | refine blk_drew ?_ | refine blk_alloc ?_ _)); exact BK290.out) hb)
      have n1_ := Aside0.mk (below_step (by repeat (first | (with_reducible first | exact HB.out | apply below_alloc | apply pw_below_drewN | apply below_drew1 | refine below_set ?_ GE290.out) | exact HB.out)) hb)
      clear BK290
      clear HB
      have BK290 := n0_
      have HB := n1_
      clear n0_ n1_
      (try clear hb)
      (try clear hb2)
      (try clear hk)
      (try clear hi)
      refine hK.out _ _ ⟨(blk_cell BK290.out 0).trans rfl, (blk_cell BK290.out 1).trans rfl, (blk_cell BK290.out 2).trans rfl, (blk_cell BK290.out 3).trans rfl, (blk_cell BK290.out 4).trans rfl, (blk_cell BK290.out 5).trans rfl, (blk_cell BK290.out 6).trans rfl, (blk_cell BK290.out 7).trans rfl, (blk_cell BK290.out 8).trans rfl, (blk_cell BK290.out 9).trans rfl⟩ (fun hHeld => ?_)
      clear hK K
      refine norm_ (a' := ?_) ?_ ?_
      rotate_left
      ·show Act.put _ (some 39) _ = _
       simp only [Act.put, List.setIfInBounds_toArray, List.set_cons_zero, List.set_cons_succ, i64_w, i32_w]
       rfl
      refine pure_ (i := 23) (N := some 42) (v := ?_) (a' := ?_) #[true, true, true, true, true, true, true, true, true, true, true, true, true, true, true, true, true, true, true, true, true, true, true, true, false, false, false, false, false, false, false] rfl rfl (any_of HT_.out (by kernel_rfl)) (fun _ _ _ h => h) (Or.inl ⟨by rfl, ?_⟩) ?_ ?_
      rotate_left
      ·intro w'
       go_simp
       first | with_reducible rfl | (rw [if_neg (by (try simp only [decide_eq_true_eq, ByteArray.size_append, ByteArray.size_extract, eq_iff_iff, iff_true, iff_false, Nat.not_lt] at *); omega)]; try with_reducible rfl)
      rotate_left
      ·simp only [Act.put, List.setIfInBounds_toArray, List.set_cons_zero, List.set_cons_succ, i64_w, i32_w]
       rfl
      refine pure_ (i := 24) (N := some 43) (v := undef) (a' := ?_) #[true, true, true, true, true, true, true, true, true, true, true, true, true, true, true, true, true, true, true, true, true, true, true, true, true, false, false, false, false, false, false] rfl rfl (any_of HT_.out (by kernel_rfl)) (fun _ _ _ h => h) (Or.inr ⟨by first | rfl | exact wanted_off rfl rfl rfl (by first | rfl | (simp [*]; done) | (simp [*, IntKind.wrap_u32]; done) | (simp_all [IntKind.wrap_u32]; done)), rfl⟩) ?_ ?_
      rotate_left
      ·simp only [Act.put, List.setIfInBounds_toArray, List.set_cons_zero, List.set_cons_succ, i64_w, i32_w]
       rfl
      refine pure_ (i := 25) (N := some 44) (v := undef) (a' := ?_) #[true, true, true, true, true, true, true, true, true, true, true, true, true, true, true, true, true, true, true, true, true, true, true, true, true, true, false, false, false, false, false] rfl rfl (any_of HT_.out (by kernel_rfl)) (fun _ _ _ h => h) (Or.inr ⟨by first | rfl | exact wanted_off rfl rfl rfl (by first | rfl | (simp [*]; done) | (simp [*, IntKind.wrap_u32]; done) | (simp_all [IntKind.wrap_u32]; done)), rfl⟩) ?_ ?_
      rotate_left
      ·simp only [Act.put, List.setIfInBounds_toArray, List.set_cons_zero, List.set_cons_succ, i64_w, i32_w]
       rfl
      refine pure_ (i := 26) (N := some 45) (v := undef) (a' := ?_) #[true, true, true, true, true, true, true, true, true, true, true, true, true, true, true, true, true, true, true, true, true, true, true, true, true, true, true, false, false, false, false] rfl rfl (any_of HT_.out (by kernel_rfl)) (fun _ _ _ h => h) (Or.inr ⟨by first | rfl | exact wanted_off rfl rfl rfl (by first | rfl | (simp [*]; done) | (simp [*, IntKind.wrap_u32]; done) | (simp_all [IntKind.wrap_u32]; done)), rfl⟩) ?_ ?_
      rotate_left
      ·simp only [Act.put, List.setIfInBounds_toArray, List.set_cons_zero, List.set_cons_succ, i64_w, i32_w]
       rfl
      refine pure_ (i := 27) (N := some 46) (v := ?_) (a' := ?_) #[true, true, true, true, true, true, true, true, true, true, true, true, true, true, true, true, true, true, true, true, true, true, true, true, true, true, true, true, false, false, false] rfl rfl (any_of HT_.out (by kernel_rfl)) (fun _ _ _ h => h) (Or.inl ⟨by rfl, ?_⟩) ?_ ?_
      rotate_left
      ·intro w'
       go_simp
       first | with_reducible rfl | (rw [if_neg (by (try simp only [decide_eq_true_eq, ByteArray.size_append, ByteArray.size_extract, eq_iff_iff, iff_true, iff_false, Nat.not_lt] at *); omega)]; try with_reducible rfl)
      rotate_left
      ·simp only [Act.put, List.setIfInBounds_toArray, List.set_cons_zero, List.set_cons_succ, i64_w, i32_w]
       rfl
      refine pure_ (i := 28) (N := some 47) (v := ?_) (a' := ?_) #[true, true, true, true, true, true, true, true, true, true, true, true, true, true, true, true, true, true, true, true, true, true, true, true, true, true, true, true, true, false, false] rfl rfl (any_of HT_.out (by kernel_rfl)) (fun _ _ _ h => h) (Or.inl ⟨by rfl, ?_⟩) ?_ ?_
      rotate_left
      ·intro w'
       go_simp
       first | with_reducible rfl | (rw [if_neg (by (try simp only [decide_eq_true_eq, ByteArray.size_append, ByteArray.size_extract, eq_iff_iff, iff_true, iff_false, Nat.not_lt] at *); omega)]; try with_reducible rfl)
      rotate_left
      ·simp only [Act.put, List.setIfInBounds_toArray, List.set_cons_zero, List.set_cons_succ, i64_w, i32_w]
       rfl
      refine pure_ (i := 29) (N := some 48) (v := ?_) (a' := ?_) #[true, true, true, true, true, true, true, true, true, true, true, true, true, true, true, true, true, true, true, true, true, true, true, true, true, true, true, true, true, true, false] rfl rfl (any_of HT_.out (by kernel_rfl)) (fun _ _ _ h => h) (Or.inl ⟨by rfl, ?_⟩) ?_ ?_
      rotate_left
      ·intro w'
       go_simp
       first | with_reducible rfl | (rw [if_neg (by (try simp only [decide_eq_true_eq, ByteArray.size_append, ByteArray.size_extract, eq_iff_iff, iff_true, iff_false, Nat.not_lt] at *); omega)]; try with_reducible rfl)
      rotate_left
      ·simp only [Act.put, List.setIfInBounds_toArray, List.set_cons_zero, List.set_cons_succ, i64_w, i32_w]
       rfl
      refine pure_ (i := 30) (N := some 2) (v := ?_) (a' := ?_) #[true, true, true, true, true, true, true, true, true, true, true, true, true, true, true, true, true, true, true, true, true, true, true, true, true, true, true, true, true, true, true] rfl rfl (any_of HT_.out (by kernel_rfl)) (fun _ _ _ h => h) (Or.inl ⟨by rfl, ?_⟩) ?_ ?_
      rotate_left
      ·intro w'
       go_simp
       first | with_reducible rfl | (rw [if_neg (by (try simp only [decide_eq_true_eq, ByteArray.size_append, ByteArray.size_extract, eq_iff_iff, iff_true, iff_false, Nat.not_lt] at *); omega)]; try with_reducible rfl)
      rotate_left
      ·simp only [Act.put, List.setIfInBounds_toArray, List.set_cons_zero, List.set_cons_succ, i64_w, i32_w]
       rfl
      refine done_ (done_of HT_.out (by kernel_rfl)) ?_
      try go_wp2
      go_ret
      exact ⟨by first | rfl | (simp [errW_none, errW_some] <;> rfl) | (simp [*, errW_none, errW_some] <;> rfl) | (simp [*, IntKind.wrap_u32]; done) | (simp_all [IntKind.wrap_u32]; done), by repeat (first | (with_reducible first | exact HB.out | apply below_alloc | apply pw_below_drewN | apply below_drew1 | refine below_set ?_ GE290.out) | exact HB.out)⟩
     ·replace c13 := Bool.eq_false_iff.mpr c13
      subst c13
      have H1 : (some (t308 == (decide (t295 > 0)))) = some r := by rw [if_neg (show ¬ (false = true) by decide)] at H; exact H
      clear H
      have H := H1
      clear H1
      obtain rfl := Option.some.inj H
      go_enter Tryd.func3, Tryd.ntmps3
      try go_wp2_with (first | ((with_reducible refine gate_dst (N := 1) rfl ?_); refine box_event ?hg (N := 1) ?hd (cs := #[.int .i64 a0_0, .int .i64 a0_1, .bool a0_2, .bool a0_3, .int .i64 a0_4, .int .i64 a0_5, .int .i64 a0_6, .int .u32 a0_7, .int .u32 a0_8, .string a0_9]) (t := 24) ?hr ?_; (case hd => rfl); (case hg => rfl); (case hr => first | (go_simp; done) | (go_simp; rfl)); intro gb290 hg w26 hbox hb; have n0_ := Aside0.mk (below_step (by repeat (first | (with_reducible first | exact HB.out | apply below_alloc | apply pw_below_drewN | apply below_drew1) | exact HB.out)) hb); have n1_ := Aside0.mk (hbox); have n2_ := Aside0.mk ((by rw [hg]; exact (below_size (by repeat (first | (with_reducible first | exact HB.out | apply below_alloc | apply pw_below_drewN | apply below_drew1) | exact HB.out))) : w.heap.size ≤ gb290)); have n3_ := Aside0.mk ((by rw [hg]; exact (below_size (by repeat (first | (with_reducible first | exact HB.out | apply below_alloc | apply pw_below_drewN | apply below_drew1) | exact HB.out))) : w.heap.size ≤ gb290)); clear HB; have HB := n0_; have BK290 := n1_; have GW290 := n2_; have GE290 := n3_; clear n0_ n1_ n2_ n3_; clear hb hbox hg; have hcz27_0 : w26.cell? ⟨gb290, 0, none⟩ = some (.int .i64 a0_0) := (blk_cell BK290.out 0).trans rfl; have hcz27_1 : w26.cell? ⟨gb290, 1, none⟩ = some (.int .i64 a0_1) := (blk_cell BK290.out 1).trans rfl; have hcz27_2 : w26.cell? ⟨gb290, 2, none⟩ = some (.bool a0_2) := (blk_cell BK290.out 2).trans rfl; have hcz27_3 : w26.cell? ⟨gb290, 3, none⟩ = some (.bool a0_3) := (blk_cell BK290.out 3).trans rfl; have hcz27_4 : w26.cell? ⟨gb290, 4, none⟩ = some (.int .i64 a0_4) := (blk_cell BK290.out 4).trans rfl; have hcz27_5 : w26.cell? ⟨gb290, 5, none⟩ = some (.int .i64 a0_5) := (blk_cell BK290.out 5).trans rfl; have hcz27_6 : w26.cell? ⟨gb290, 6, none⟩ = some (.int .i64 a0_6) := (blk_cell BK290.out 6).trans rfl; have hcz27_7 : w26.cell? ⟨gb290, 7, none⟩ = some (.int .u32 a0_7) := (blk_cell BK290.out 7).trans rfl; have hcz27_8 : w26.cell? ⟨gb290, 8, none⟩ = some (.int .u32 a0_8) := (blk_cell BK290.out 8).trans rfl; have hcz27_9 : w26.cell? ⟨gb290, 9, none⟩ = some (.string a0_9) := (blk_cell BK290.out 9).trans rfl; have hfz27_0 := blk_frozen BK290.out 0; have hfz27_1 := blk_frozen BK290.out 1; have hfz27_2 := blk_frozen BK290.out 2; have hfz27_3 := blk_frozen BK290.out 3; have hfz27_4 := blk_frozen BK290.out 4; have hfz27_5 := blk_frozen BK290.out 5; have hfz27_6 := blk_frozen BK290.out 6; have hfz27_7 := blk_frozen BK290.out 7; have hfz27_8 := blk_frozen BK290.out 8; have hfz27_9 := blk_frozen BK290.out 9) | ((with_reducible refine gate_callee (f := 9) rfl ?_); refine goesL_ (some 8) rfl rfl Tryd.func9 (by kernel_rfl) rfl #[.agg #[.int .i64 a0_0, .int .i64 a0_1, .bool a0_2, .bool a0_3, .int .i64 a0_4, .int .i64 a0_5, .int .i64 a0_6, .int .u32 a0_7, .int .u32 a0_8, .string a0_9]] rfl (by (try simp only [List.map_toArray, List.map_cons, List.map_nil]); first | done | rfl | (simp only [List.length_drop, List.length_take]; rfl)) ?_; (with_reducible refine (gangwaylaw06_cut.calls a0_0 a0_1 a0_2 a0_3 a0_4 a0_5 a0_6 a0_7 a0_8 a0_9 t291 t292 t293 false t295 t296 t297 t298 t299 t300 _ A2.out).mono ?_); rintro e w28 ⟨rfl, hb⟩; refine ⟨_, rfl, ?_⟩; have n0_ := Aside0.mk (blk_below (g := gb290) (o := .cells #[.int .i64 a0_0, .int .i64 a0_1, .bool a0_2, .bool a0_3, .int .i64 a0_4, .int .i64 a0_5, .int .i64 a0_6, .int .u32 a0_7, .int .u32 a0_8, .string a0_9] 24 (0, 0)) (by (with_reducible repeat (first | refine blk_drewN ?_ _ | refine blk_drew ?_ | refine blk_alloc ?_ _)); exact BK290.out) hb); have n1_ := Aside0.mk (below_step (by repeat (first | (with_reducible first | exact HB.out | apply below_alloc | apply pw_below_drewN | apply below_drew1 | refine below_set ?_ GE290.out) | exact HB.out)) hb); clear BK290; clear HB; have BK290 := n0_; have HB := n1_; clear n0_ n1_; have hcy1_290_0 := (show World.cell? _ ⟨gb290, 0, none⟩ = some (.int .i64 a0_0) from (blk_cell BK290.out 0).trans rfl); have hcy1_290_1 := (show World.cell? _ ⟨gb290, 1, none⟩ = some (.int .i64 a0_1) from (blk_cell BK290.out 1).trans rfl); have hcy1_290_2 := (show World.cell? _ ⟨gb290, 2, none⟩ = some (.bool a0_2) from (blk_cell BK290.out 2).trans rfl); have hcy1_290_3 := (show World.cell? _ ⟨gb290, 3, none⟩ = some (.bool a0_3) from (blk_cell BK290.out 3).trans rfl); have hcy1_290_4 := (show World.cell? _ ⟨gb290, 4, none⟩ = some (.int .i64 a0_4) from (blk_cell BK290.out 4).trans rfl); have hcy1_290_5 := (show World.cell? _ ⟨gb290, 5, none⟩ = some (.int .i64 a0_5) from (blk_cell BK290.out 5).trans rfl); have hcy1_290_6 := (show World.cell? _ ⟨gb290, 6, none⟩ = some (.int .i64 a0_6) from (blk_cell BK290.out 6).trans rfl); have hcy1_290_7 := (show World.cell? _ ⟨gb290, 7, none⟩ = some (.int .u32 a0_7) from (blk_cell BK290.out 7).trans rfl); have hcy1_290_8 := (show World.cell? _ ⟨gb290, 8, none⟩ = some (.int .u32 a0_8) from (blk_cell BK290.out 8).trans rfl); have hcy1_290_9 := (show World.cell? _ ⟨gb290, 9, none⟩ = some (.string a0_9) from (blk_cell BK290.out 9).trans rfl); (try clear hb); (try clear hb2); (try clear hk); (try clear hi); have hcz29_0 : w28.cell? ⟨gb290, 0, none⟩ = some (.int .i64 a0_0) := (blk_cell BK290.out 0).trans rfl; have hcz29_1 : w28.cell? ⟨gb290, 1, none⟩ = some (.int .i64 a0_1) := (blk_cell BK290.out 1).trans rfl; have hcz29_2 : w28.cell? ⟨gb290, 2, none⟩ = some (.bool a0_2) := (blk_cell BK290.out 2).trans rfl; have hcz29_3 : w28.cell? ⟨gb290, 3, none⟩ = some (.bool a0_3) := (blk_cell BK290.out 3).trans rfl; have hcz29_4 : w28.cell? ⟨gb290, 4, none⟩ = some (.int .i64 a0_4) := (blk_cell BK290.out 4).trans rfl; have hcz29_5 : w28.cell? ⟨gb290, 5, none⟩ = some (.int .i64 a0_5) := (blk_cell BK290.out 5).trans rfl; have hcz29_6 : w28.cell? ⟨gb290, 6, none⟩ = some (.int .i64 a0_6) := (blk_cell BK290.out 6).trans rfl; have hcz29_7 : w28.cell? ⟨gb290, 7, none⟩ = some (.int .u32 a0_7) := (blk_cell BK290.out 7).trans rfl; have hcz29_8 : w28.cell? ⟨gb290, 8, none⟩ = some (.int .u32 a0_8) := (blk_cell BK290.out 8).trans rfl; have hcz29_9 : w28.cell? ⟨gb290, 9, none⟩ = some (.string a0_9) := (blk_cell BK290.out 9).trans rfl; have hfz29_0 := blk_frozen BK290.out 0; have hfz29_1 := blk_frozen BK290.out 1; have hfz29_2 := blk_frozen BK290.out 2; have hfz29_3 := blk_frozen BK290.out 3; have hfz29_4 := blk_frozen BK290.out 4; have hfz29_5 := blk_frozen BK290.out 5; have hfz29_6 := blk_frozen BK290.out 6; have hfz29_7 := blk_frozen BK290.out 7; have hfz29_8 := blk_frozen BK290.out 8; have hfz29_9 := blk_frozen BK290.out 9) | (obtain ⟨w28f, hgw_⟩ : ∃ y, y = (World.setCell (World.setCell (World.setCell (World.setCell w28 ⟨gb290, 0, none⟩ (.int .i64 t291)) ⟨gb290, 1, none⟩ (.int .i64 t292)) ⟨gb290, 2, none⟩ (.bool t293)) ⟨gb290, 3, none⟩ (.bool false)) := ⟨_, rfl⟩; rw [← hgw_]; have m0_ := Aside0.mk (show w28f.heap[gb290]? = some (.cells #[.int .i64 t291, .int .i64 t292, .bool t293, .bool false, .int .i64 a0_4, .int .i64 a0_5, .int .i64 a0_6, .int .u32 a0_7, .int .u32 a0_8, .string a0_9] 24 (0, 0)) from (by rw [hgw_]; refine blk_put (cs := #[.int .i64 t291, .int .i64 t292, .bool t293, .bool a0_3, .int .i64 a0_4, .int .i64 a0_5, .int .i64 a0_6, .int .u32 a0_7, .int .u32 a0_8, .string a0_9]) ?_ 3 _ rfl; (with_reducible repeat (first | refine blk_drewN ?_ _ | refine blk_drew ?_ | refine blk_alloc ?_ _)); refine blk_put (cs := #[.int .i64 t291, .int .i64 t292, .bool a0_2, .bool a0_3, .int .i64 a0_4, .int .i64 a0_5, .int .i64 a0_6, .int .u32 a0_7, .int .u32 a0_8, .string a0_9]) ?_ 2 _ rfl; (with_reducible repeat (first | refine blk_drewN ?_ _ | refine blk_drew ?_ | refine blk_alloc ?_ _)); refine blk_put (cs := #[.int .i64 t291, .int .i64 a0_1, .bool a0_2, .bool a0_3, .int .i64 a0_4, .int .i64 a0_5, .int .i64 a0_6, .int .u32 a0_7, .int .u32 a0_8, .string a0_9]) ?_ 1 _ rfl; (with_reducible repeat (first | refine blk_drewN ?_ _ | refine blk_drew ?_ | refine blk_alloc ?_ _)); refine blk_put (cs := #[.int .i64 a0_0, .int .i64 a0_1, .bool a0_2, .bool a0_3, .int .i64 a0_4, .int .i64 a0_5, .int .i64 a0_6, .int .u32 a0_7, .int .u32 a0_8, .string a0_9]) ?_ 0 _ rfl; (with_reducible repeat (first | refine blk_drewN ?_ _ | refine blk_drew ?_ | refine blk_alloc ?_ _)); exact BK290.out)); have mb_ := Aside0.mk (show Below w.heap.size w w28f from (by rw [hgw_]; exact (by repeat (first | (with_reducible first | exact HB.out | apply below_alloc | apply pw_below_drewN | apply below_drew1 | refine below_set ?_ GE290.out) | exact HB.out)))); clear BK290; have BK290 := m0_; clear m0_; clear HB; have HB := mb_; clear mb_; clear hgw_; have hcf290_0 : w28f.cell? ⟨gb290, 0, none⟩ = some (.int .i64 t291) := (blk_cell BK290.out 0).trans rfl; have hcf290_1 : w28f.cell? ⟨gb290, 1, none⟩ = some (.int .i64 t292) := (blk_cell BK290.out 1).trans rfl; have hcf290_2 : w28f.cell? ⟨gb290, 2, none⟩ = some (.bool t293) := (blk_cell BK290.out 2).trans rfl; have hcf290_3 : w28f.cell? ⟨gb290, 3, none⟩ = some (.bool false) := (blk_cell BK290.out 3).trans rfl; have hcf290_4 : w28f.cell? ⟨gb290, 4, none⟩ = some (.int .i64 a0_4) := (blk_cell BK290.out 4).trans rfl; have hcf290_5 : w28f.cell? ⟨gb290, 5, none⟩ = some (.int .i64 a0_5) := (blk_cell BK290.out 5).trans rfl; have hcf290_6 : w28f.cell? ⟨gb290, 6, none⟩ = some (.int .i64 a0_6) := (blk_cell BK290.out 6).trans rfl; have hcf290_7 : w28f.cell? ⟨gb290, 7, none⟩ = some (.int .u32 a0_7) := (blk_cell BK290.out 7).trans rfl; have hcf290_8 : w28f.cell? ⟨gb290, 8, none⟩ = some (.int .u32 a0_8) := (blk_cell BK290.out 8).trans rfl; have hcf290_9 : w28f.cell? ⟨gb290, 9, none⟩ = some (.string a0_9) := (blk_cell BK290.out 9).trans rfl; have hff290_0 := blk_frozen BK290.out 0; have hff290_1 := blk_frozen BK290.out 1; have hff290_2 := blk_frozen BK290.out 2; have hff290_3 := blk_frozen BK290.out 3; have hff290_4 := blk_frozen BK290.out 4; have hff290_5 := blk_frozen BK290.out 5; have hff290_6 := blk_frozen BK290.out 6; have hff290_7 := blk_frozen BK290.out 7; have hff290_8 := blk_frozen BK290.out 8; have hff290_9 := blk_frozen BK290.out 9) | ((with_reducible refine gate_callee (f := 10) rfl ?_); refine goesL_ (some 11) rfl rfl Tryd.func10 (by kernel_rfl) rfl #[.agg #[.int .i64 t291, .int .i64 t292, .bool t293, .bool false, .int .i64 t295, .int .i64 t296, .int .i64 t297, .int .u32 t298, .int .u32 t299, .string t300]] rfl (by (try simp only [List.map_toArray, List.map_cons, List.map_nil]); first | done | rfl | (simp only [List.length_drop, List.length_take]; rfl)) ?_; (with_reducible refine (inet_Build.calls k t291 t292 t293 false t295 t296 t297 t298 t299 t300 t301 t302 _ A3.out).mono ?_); rintro e w30 ⟨rfl, hb⟩; refine ⟨_, rfl, ?_⟩; have n0_ := Aside0.mk (blk_below (g := gb290) (o := .cells #[.int .i64 t291, .int .i64 t292, .bool t293, .bool false, .int .i64 t295, .int .i64 t296, .int .i64 t297, .int .u32 t298, .int .u32 t299, .string t300] 24 (0, 0)) (by (with_reducible repeat (first | refine blk_drewN ?_ _ | refine blk_drew ?_ | refine blk_alloc ?_ _)); refine blk_put (cs := #[.int .i64 t291, .int .i64 t292, .bool t293, .bool false, .int .i64 t295, .int .i64 t296, .int .i64 t297, .int .u32 t298, .int .u32 t299, .string a0_9]) ?_ 9 _ rfl; (with_reducible repeat (first | refine blk_drewN ?_ _ | refine blk_drew ?_ | refine blk_alloc ?_ _)); refine blk_put (cs := #[.int .i64 t291, .int .i64 t292, .bool t293, .bool false, .int .i64 t295, .int .i64 t296, .int .i64 t297, .int .u32 t298, .int .u32 a0_8, .string a0_9]) ?_ 8 _ rfl; (with_reducible repeat (first | refine blk_drewN ?_ _ | refine blk_drew ?_ | refine blk_alloc ?_ _)); refine blk_put (cs := #[.int .i64 t291, .int .i64 t292, .bool t293, .bool false, .int .i64 t295, .int .i64 t296, .int .i64 t297, .int .u32 a0_7, .int .u32 a0_8, .string a0_9]) ?_ 7 _ rfl; (with_reducible repeat (first | refine blk_drewN ?_ _ | refine blk_drew ?_ | refine blk_alloc ?_ _)); refine blk_put (cs := #[.int .i64 t291, .int .i64 t292, .bool t293, .bool false, .int .i64 t295, .int .i64 t296, .int .i64 a0_6, .int .u32 a0_7, .int .u32 a0_8, .string a0_9]) ?_ 6 _ rfl; (with_reducible repeat (first | refine blk_drewN ?_ _ | refine blk_drew ?_ | refine blk_alloc ?_ _)); refine blk_put (cs := #[.int .i64 t291, .int .i64 t292, .bool t293, .bool false, .int .i64 t295, .int .i64 a0_5, .int .i64 a0_6, .int .u32 a0_7, .int .u32 a0_8, .string a0_9]) ?_ 5 _ rfl; (with_reducible repeat (first | refine blk_drewN ?_ _ | refine blk_drew ?_ | refine blk_alloc ?_ _)); refine blk_put (cs := #[.int .i64 t291, .int .i64 t292, .bool t293, .bool false, .int .i64 a0_4, .int .i64 a0_5, .int .i64 a0_6, .int .u32 a0_7, .int .u32 a0_8, .string a0_9]) ?_ 4 _ rfl; (with_reducible repeat (first | refine blk_drewN ?_ _ | refine blk_drew ?_ | refine blk_alloc ?_ _)); exact BK290.out) hb); have n1_ := Aside0.mk (below_step (by repeat (first | (with_reducible first | exact HB.out | apply below_alloc | apply pw_below_drewN | apply below_drew1 | refine below_set ?_ GE290.out) | exact HB.out)) hb); clear BK290; clear HB; have BK290 := n0_; have HB := n1_; clear n0_ n1_; have hcy2_290_0 := (show World.cell? _ ⟨gb290, 0, none⟩ = some (.int .i64 t291) from (blk_cell BK290.out 0).trans rfl); have hcy2_290_1 := (show World.cell? _ ⟨gb290, 1, none⟩ = some (.int .i64 t292) from (blk_cell BK290.out 1).trans rfl); have hcy2_290_2 := (show World.cell? _ ⟨gb290, 2, none⟩ = some (.bool t293) from (blk_cell BK290.out 2).trans rfl); have hcy2_290_3 := (show World.cell? _ ⟨gb290, 3, none⟩ = some (.bool false) from (blk_cell BK290.out 3).trans rfl); have hcy2_290_4 := (show World.cell? _ ⟨gb290, 4, none⟩ = some (.int .i64 t295) from (blk_cell BK290.out 4).trans rfl); have hcy2_290_5 := (show World.cell? _ ⟨gb290, 5, none⟩ = some (.int .i64 t296) from (blk_cell BK290.out 5).trans rfl); have hcy2_290_6 := (show World.cell? _ ⟨gb290, 6, none⟩ = some (.int .i64 t297) from (blk_cell BK290.out 6).trans rfl); have hcy2_290_7 := (show World.cell? _ ⟨gb290, 7, none⟩ = some (.int .u32 t298) from (blk_cell BK290.out 7).trans rfl); have hcy2_290_8 := (show World.cell? _ ⟨gb290, 8, none⟩ = some (.int .u32 t299) from (blk_cell BK290.out 8).trans rfl); have hcy2_290_9 := (show World.cell? _ ⟨gb290, 9, none⟩ = some (.string t300) from (blk_cell BK290.out 9).trans rfl); (try clear hb); (try clear hb2); (try clear hk); (try clear hi); have hcz31_0 : w30.cell? ⟨gb290, 0, none⟩ = some (.int .i64 t291) := (blk_cell BK290.out 0).trans rfl; have hcz31_1 : w30.cell? ⟨gb290, 1, none⟩ = some (.int .i64 t292) := (blk_cell BK290.out 1).trans rfl; have hcz31_2 : w30.cell? ⟨gb290, 2, none⟩ = some (.bool t293) := (blk_cell BK290.out 2).trans rfl; have hcz31_3 : w30.cell? ⟨gb290, 3, none⟩ = some (.bool false) := (blk_cell BK290.out 3).trans rfl; have hcz31_4 : w30.cell? ⟨gb290, 4, none⟩ = some (.int .i64 t295) := (blk_cell BK290.out 4).trans rfl; have hcz31_5 : w30.cell? ⟨gb290, 5, none⟩ = some (.int .i64 t296) := (blk_cell BK290.out 5).trans rfl; have hcz31_6 : w30.cell? ⟨gb290, 6, none⟩ = some (.int .i64 t297) := (blk_cell BK290.out 6).trans rfl; have hcz31_7 : w30.cell? ⟨gb290, 7, none⟩ = some (.int .u32 t298) := (blk_cell BK290.out 7).trans rfl; have hcz31_8 : w30.cell? ⟨gb290, 8, none⟩ = some (.int .u32 t299) := (blk_cell BK290.out 8).trans rfl; have hcz31_9 : w30.cell? ⟨gb290, 9, none⟩ = some (.string t300) := (blk_cell BK290.out 9).trans rfl; have hfz31_0 := blk_frozen BK290.out 0; have hfz31_1 := blk_frozen BK290.out 1; have hfz31_2 := blk_frozen BK290.out 2; have hfz31_3 := blk_frozen BK290.out 3; have hfz31_4 := blk_frozen BK290.out 4; have hfz31_5 := blk_frozen BK290.out 5; have hfz31_6 := blk_frozen BK290.out 6; have hfz31_7 := blk_frozen BK290.out 7; have hfz31_8 := blk_frozen BK290.out 8; have hfz31_9 := blk_frozen BK290.out 9) | ((with_reducible refine gate_callee (f := 11) rfl ?_); refine goesL_ (some 16) rfl rfl Tryd.func11 (by kernel_rfl) rfl #[.agg #[.int .i64 t291, .int .i64 t292, .bool t293, .bool false, .int .i64 t295, .int .i64 t296, .int .i64 t297, .int .u32 t298, .int .u32 t299, .string t300]] rfl (by (try simp only [List.map_toArray, List.map_cons, List.map_nil]); first | done | rfl | (simp only [List.length_drop, List.length_take]; rfl)) ?_; (with_reducible refine (gangwayref06_Build.calls k t291 t292 t293 false t295 t296 t297 t298 t299 t300 t303 t304 _ A4.out).mono ?_); rintro e w32 ⟨rfl, hb⟩; refine ⟨_, rfl, ?_⟩; have n0_ := Aside0.mk (blk_below (g := gb290) (o := .cells #[.int .i64 t291, .int .i64 t292, .bool t293, .bool false, .int .i64 t295, .int .i64 t296, .int .i64 t297, .int .u32 t298, .int .u32 t299, .string t300] 24 (0, 0)) (by (with_reducible repeat (first | refine blk_drewN ?_ _ | refine blk_drew ?_ | refine blk_alloc ?_ _)); exact BK290.out) hb); have n1_ := Aside0.mk (below_step (by repeat (first | (with_reducible first | exact HB.out | apply below_alloc | apply pw_below_drewN | apply below_drew1 | refine below_set ?_ GE290.out) | exact HB.out)) hb); clear BK290; clear HB; have BK290 := n0_; have HB := n1_; clear n0_ n1_; have hcy3_290_0 := (show World.cell? _ ⟨gb290, 0, none⟩ = some (.int .i64 t291) from (blk_cell BK290.out 0).trans rfl); have hcy3_290_1 := (show World.cell? _ ⟨gb290, 1, none⟩ = some (.int .i64 t292) from (blk_cell BK290.out 1).trans rfl); have hcy3_290_2 := (show World.cell? _ ⟨gb290, 2, none⟩ = some (.bool t293) from (blk_cell BK290.out 2).trans rfl); have hcy3_290_3 := (show World.cell? _ ⟨gb290, 3, none⟩ = some (.bool false) from (blk_cell BK290.out 3).trans rfl); have hcy3_290_4 := (show World.cell? _ ⟨gb290, 4, none⟩ = some (.int .i64 t295) from (blk_cell BK290.out 4).trans rfl); have hcy3_290_5 := (show World.cell? _ ⟨gb290, 5, none⟩ = some (.int .i64 t296) from (blk_cell BK290.out 5).trans rfl); have hcy3_290_6 := (show World.cell? _ ⟨gb290, 6, none⟩ = some (.int .i64 t297) from (blk_cell BK290.out 6).trans rfl); have hcy3_290_7 := (show World.cell? _ ⟨gb290, 7, none⟩ = some (.int .u32 t298) from (blk_cell BK290.out 7).trans rfl); have hcy3_290_8 := (show World.cell? _ ⟨gb290, 8, none⟩ = some (.int .u32 t299) from (blk_cell BK290.out 8).trans rfl); have hcy3_290_9 := (show World.cell? _ ⟨gb290, 9, none⟩ = some (.string t300) from (blk_cell BK290.out 9).trans rfl); (try clear hb); (try clear hb2); (try clear hk); (try clear hi)))
      have n0_ := Aside0.mk (blk_drew BK290.out)
      have n1_ := Aside0.mk (below_drew1 HB.out)
      clear BK290
      clear HB
      have BK290 := n0_
      have HB := n1_
      clear n0_ n1_
      refine start_ (n := 31) (S := fun w' => w'.cell? ⟨gb290, 0, none⟩ = some (.int .i64 t291) ∧ w'.cell? ⟨gb290, 1, none⟩ = some (.int .i64 t292) ∧ w'.cell? ⟨gb290, 2, none⟩ = some (.bool t293) ∧ w'.cell? ⟨gb290, 3, none⟩ = some (.bool false) ∧ w'.cell? ⟨gb290, 4, none⟩ = some (.int .i64 t295) ∧ w'.cell? ⟨gb290, 5, none⟩ = some (.int .i64 t296) ∧ w'.cell? ⟨gb290, 6, none⟩ = some (.int .i64 t297) ∧ w'.cell? ⟨gb290, 7, none⟩ = some (.int .u32 t298) ∧ w'.cell? ⟨gb290, 8, none⟩ = some (.int .u32 t299) ∧ w'.cell? ⟨gb290, 9, none⟩ = some (.string t300)) (ds := []) #[false, false, false, false, false, false, false, false, false, false, false, false, false, false, false, false, false, false, false, false, false, false, false, false, false, false, false, false, false, false, false] (by kernel_rfl) rfl rfl ⟨(blk_cell BK290.out 0).trans rfl, (blk_cell BK290.out 1).trans rfl, (blk_cell BK290.out 2).trans rfl, (blk_cell BK290.out 3).trans rfl, (blk_cell BK290.out 4).trans rfl, (blk_cell BK290.out 5).trans rfl, (blk_cell BK290.out 6).trans rfl, (blk_cell BK290.out 7).trans rfl, (blk_cell BK290.out 8).trans rfl, (blk_cell BK290.out 9).trans rfl⟩ (fun hHeld => ?_); refine with_tabW gangwaylaw06_InetBuilds.tab4 gangwaylaw06_InetBuilds.bits4 (fun HT_ HW_ => ?_)
      generalize w32.drew = w33 at BK290 HB hHeld ⊢
      refine one_ (i := 0) (N := some 19) #[true, false, false, false, false, false, false, false, false, false, false, false, false, false, false, false, false, false, false, false, false, false, false, false, false, false, false, false, false, false, false] rfl rfl (one_of HT_.out (by kernel_rfl)) (by decide) (fun K hK => ?_)
      refine goes_ Tryd.func12 (by kernel_rfl) rfl #[] (by first | rfl | exact wanted_on rfl rfl rfl (by first | rfl | (simp [*]; done) | (simp [*, IntKind.wrap_u32]; done))) rfl rfl (by (try simp only [List.map_toArray, List.map_cons, List.map_nil]); first | done | rfl | (simp only [List.length_drop, List.length_take]; rfl)) ?_
      with_reducible refine (gangwaylaw06_fixed.calls k  true _ ?sideL A5.out).mono ?_
      case sideL => exact laid_below HLD.out (by repeat (first | (with_reducible first | exact HB.out | apply below_alloc | apply pw_below_drewN | apply below_drew1 | refine below_set ?_ GE290.out) | exact HB.out))
      rintro e w34 ⟨rfl, hb⟩
      refine ⟨_, rfl, ?_⟩
      have n0_ := Aside0.mk (blk_below (g := gb290) (o := .cells #[.int .i64 t291, .int .i64 t292, .bool t293, .bool false, .int .i64 t295, .int .i64 t296, .int .i64 t297, .int .u32 t298, .int .u32 t299, .string t300] 24 (0, 0)) (by (with_reducible repeat (first | refine blk_drewN ?_ _ | refine blk_drew ?_ | refine blk_alloc ?_ _)); exact BK290.out) hb)
      have n1_ := Aside0.mk (below_step (by repeat (first | (with_reducible first | exact HB.out | apply below_alloc | apply pw_below_drewN | apply below_drew1 | refine below_set ?_ GE290.out) | exact HB.out)) hb)
      clear BK290
      clear HB
      have BK290 := n0_
      have HB := n1_
      clear n0_ n1_
      (try clear hb)
      (try clear hb2)
      (try clear hk)
      (try clear hi)
      refine hK.out _ _ ⟨(blk_cell BK290.out 0).trans rfl, (blk_cell BK290.out 1).trans rfl, (blk_cell BK290.out 2).trans rfl, (blk_cell BK290.out 3).trans rfl, (blk_cell BK290.out 4).trans rfl, (blk_cell BK290.out 5).trans rfl, (blk_cell BK290.out 6).trans rfl, (blk_cell BK290.out 7).trans rfl, (blk_cell BK290.out 8).trans rfl, (blk_cell BK290.out 9).trans rfl⟩ (fun hHeld => ?_)
      clear hK K
      refine norm_ (a' := ?_) ?_ ?_
      rotate_left
      ·show Act.put _ (some 19) _ = _
       simp only [Act.put, List.setIfInBounds_toArray, List.set_cons_zero, List.set_cons_succ, i64_w, i32_w]
       rfl
      refine pure_ (i := 1) (N := some 20) (v := ?_) (a' := ?_) #[true, true, false, false, false, false, false, false, false, false, false, false, false, false, false, false, false, false, false, false, false, false, false, false, false, false, false, false, false, false, false] rfl rfl (any_of HT_.out (by kernel_rfl)) (fun _ _ _ h => h) (Or.inl ⟨by rfl, ?_⟩) ?_ ?_
      rotate_left
      ·intro w'
       go_simp
       first | with_reducible rfl | (rw [if_neg (by (try simp only [decide_eq_true_eq, ByteArray.size_append, ByteArray.size_extract, eq_iff_iff, iff_true, iff_false, Nat.not_lt] at *); omega)]; try with_reducible rfl)
      rotate_left
      ·simp only [Act.put, List.setIfInBounds_toArray, List.set_cons_zero, List.set_cons_succ, i64_w, i32_w]
       rfl
      refine pure_ (i := 2) (N := some 21) (v := ?_) (a' := ?_) #[true, true, true, false, false, false, false, false, false, false, false, false, false, false, false, false, false, false, false, false, false, false, false, false, false, false, false, false, false, false, false] rfl rfl (any_of HT_.out (by kernel_rfl)) (fun _ _ _ h => h) (Or.inl ⟨by rfl, ?_⟩) ?_ ?_
      rotate_left
      ·intro w'
       go_simp
       first | with_reducible rfl | (rw [if_neg (by (try simp only [decide_eq_true_eq, ByteArray.size_append, ByteArray.size_extract, eq_iff_iff, iff_true, iff_false, Nat.not_lt] at *); omega)]; try with_reducible rfl)
      rotate_left
      ·simp only [Act.put, List.setIfInBounds_toArray, List.set_cons_zero, List.set_cons_succ, i64_w, i32_w]
       rfl
      refine pure_ (i := 3) (N := some 22) (v := ?_) (a' := ?_) #[true, true, true, true, false, false, false, false, false, false, false, false, false, false, false, false, false, false, false, false, false, false, false, false, false, false, false, false, false, false, false] rfl rfl (any_of HT_.out (by kernel_rfl)) (fun _ _ _ h => h) (Or.inl ⟨by rfl, ?_⟩) ?_ ?_
      rotate_left
      ·intro w'
       go_simp
       first | with_reducible rfl | (rw [if_neg (by (try simp only [decide_eq_true_eq, ByteArray.size_append, ByteArray.size_extract, eq_iff_iff, iff_true, iff_false, Nat.not_lt] at *); omega)]; try with_reducible rfl)
      rotate_left
      ·simp only [Act.put, List.setIfInBounds_toArray, List.set_cons_zero, List.set_cons_succ, i64_w, i32_w]
       rfl
      refine pure_ (i := 4) (N := some 23) (v := ?_) (a' := ?_) #[true, true, true, true, true, false, false, false, false, false, false, false, false, false, false, false, false, false, false, false, false, false, false, false, false, false, false, false, false, false, false] rfl rfl (any_of HT_.out (by kernel_rfl)) (fun _ _ _ h => h) (Or.inl ⟨by rfl, ?_⟩) ?_ ?_
      rotate_left
      ·intro w'
       go_simp
       first | with_reducible rfl | (rw [if_neg (by (try simp only [decide_eq_true_eq, ByteArray.size_append, ByteArray.size_extract, eq_iff_iff, iff_true, iff_false, Nat.not_lt] at *); omega)]; try with_reducible rfl)
      rotate_left
      ·simp only [Act.put, List.setIfInBounds_toArray, List.set_cons_zero, List.set_cons_succ, i64_w, i32_w]
       rfl
      refine pure_ (i := 5) (N := some 24) (v := ?_) (a' := ?_) #[true, true, true, true, true, true, false, false, false, false, false, false, false, false, false, false, false, false, false, false, false, false, false, false, false, false, false, false, false, false, false] rfl rfl (any_of HT_.out (by kernel_rfl)) (fun _ _ _ h => h) (Or.inl ⟨by rfl, ?_⟩) ?_ ?_
      rotate_left
      ·intro w'
       go_simp
       first | with_reducible rfl | (rw [if_neg (by (try simp only [decide_eq_true_eq, ByteArray.size_append, ByteArray.size_extract, eq_iff_iff, iff_true, iff_false, Nat.not_lt] at *); omega)]; try with_reducible rfl)
      rotate_left
      ·simp only [Act.put, List.setIfInBounds_toArray, List.set_cons_zero, List.set_cons_succ, i64_w, i32_w]
       rfl
      refine pure_ (i := 6) (N := some 25) (v := ?_) (a' := ?_) #[true, true, true, true, true, true, true, false, false, false, false, false, false, false, false, false, false, false, false, false, false, false, false, false, false, false, false, false, false, false, false] rfl rfl (any_of HT_.out (by kernel_rfl)) (fun _ _ _ h => h) (Or.inl ⟨by rfl, ?_⟩) ?_ ?_
      rotate_left
      ·intro w'
       go_simp
       first | with_reducible rfl | (rw [if_neg (by (try simp only [decide_eq_true_eq, ByteArray.size_append, ByteArray.size_extract, eq_iff_iff, iff_true, iff_false, Nat.not_lt] at *); omega)]; try with_reducible rfl)
      rotate_left
      ·simp only [Act.put, List.setIfInBounds_toArray, List.set_cons_zero, List.set_cons_succ, i64_w, i32_w]
       rfl
      refine pure_ (i := 7) (N := some 26) (v := ?_) (a' := ?_) #[true, true, true, true, true, true, true, true, false, false, false, false, false, false, false, false, false, false, false, false, false, false, false, false, false, false, false, false, false, false, false] rfl rfl (any_of HT_.out (by kernel_rfl)) (fun _ _ _ h => h) (Or.inl ⟨by rfl, ?_⟩) ?_ ?_
      rotate_left
      ·intro w'
       go_simp
       first | with_reducible rfl | (rw [if_neg (by (try simp only [decide_eq_true_eq, ByteArray.size_append, ByteArray.size_extract, eq_iff_iff, iff_true, iff_false, Nat.not_lt] at *); omega)]; try with_reducible rfl)
      rotate_left
      ·simp only [Act.put, List.setIfInBounds_toArray, List.set_cons_zero, List.set_cons_succ, i64_w, i32_w]
       rfl
      refine pure_ (i := 8) (N := some 27) (v := ?_) (a' := ?_) #[true, true, true, true, true, true, true, true, true, false, false, false, false, false, false, false, false, false, false, false, false, false, false, false, false, false, false, false, false, false, false] rfl rfl (any_of HT_.out (by kernel_rfl)) (fun _ _ _ h => h) (Or.inl ⟨by rfl, ?_⟩) ?_ ?_
      rotate_left
      ·intro w'
       go_simp
       first | with_reducible rfl | (rw [if_neg (by (try simp only [decide_eq_true_eq, ByteArray.size_append, ByteArray.size_extract, eq_iff_iff, iff_true, iff_false, Nat.not_lt] at *); omega)]; try with_reducible rfl)
      rotate_left
      ·simp only [Act.put, List.setIfInBounds_toArray, List.set_cons_zero, List.set_cons_succ, i64_w, i32_w]
       rfl
      refine pure_ (i := 9) (N := some 28) (v := ?_) (a' := ?_) #[true, true, true, true, true, true, true, true, true, true, false, false, false, false, false, false, false, false, false, false, false, false, false, false, false, false, false, false, false, false, false] rfl rfl (any_of HT_.out (by kernel_rfl)) (fun _ _ _ h => h) (Or.inl ⟨by rfl, ?_⟩) ?_ ?_
      rotate_left
      ·intro w'
       go_simp
       first | with_reducible rfl | (rw [if_neg (by (try simp only [decide_eq_true_eq, ByteArray.size_append, ByteArray.size_extract, eq_iff_iff, iff_true, iff_false, Nat.not_lt] at *); omega)]; try with_reducible rfl)
      rotate_left
      ·simp only [Act.put, List.setIfInBounds_toArray, List.set_cons_zero, List.set_cons_succ, i64_w, i32_w]
       rfl
      refine pure_ (i := 10) (N := some 29) (v := ?_) (a' := ?_) #[true, true, true, true, true, true, true, true, true, true, true, false, false, false, false, false, false, false, false, false, false, false, false, false, false, false, false, false, false, false, false] rfl rfl (any_of HT_.out (by kernel_rfl)) (fun _ _ _ h => h) (Or.inl ⟨by rfl, ?_⟩) ?_ ?_
      rotate_left
      ·intro w'
       go_simp
       first | with_reducible rfl | (rw [if_neg (by (try simp only [decide_eq_true_eq, ByteArray.size_append, ByteArray.size_extract, eq_iff_iff, iff_true, iff_false, Nat.not_lt] at *); omega)]; try with_reducible rfl)
      rotate_left
      ·simp only [Act.put, List.setIfInBounds_toArray, List.set_cons_zero, List.set_cons_succ, i64_w, i32_w]
       rfl
      refine pure_ (i := 11) (N := some 30) (v := ?_) (a' := ?_) #[true, true, true, true, true, true, true, true, true, true, true, true, false, false, false, false, false, false, false, false, false, false, false, false, false, false, false, false, false, false, false] rfl rfl (any_of HT_.out (by kernel_rfl)) (fun _ _ _ h => h) (Or.inl ⟨by rfl, ?_⟩) ?_ ?_
      rotate_left
      ·intro w'
       go_simp
       first | with_reducible rfl | (rw [if_neg (by (try simp only [decide_eq_true_eq, ByteArray.size_append, ByteArray.size_extract, eq_iff_iff, iff_true, iff_false, Nat.not_lt] at *); omega)]; try with_reducible rfl)
      rotate_left
      ·simp only [Act.put, List.setIfInBounds_toArray, List.set_cons_zero, List.set_cons_succ, i64_w, i32_w]
       rfl
      refine take_ (i := 12) (N := some 31) (v := ?_) (a' := ?_) #[true, true, true, true, true, true, true, true, true, true, true, true, true, false, false, false, false, false, false, false, false, false, false, false, false, false, false, false, false, false, false] rfl rfl (take_ofW HT_.out HW_.out (by kernel_rfl)) (fun _ _ _ h => h) (Or.inl ⟨by rfl, ?_⟩) hHeld ?_ ?_
      rotate_left
      ·rintro w' ⟨s0, s1, s2, s3, s4, s5, s6, s7, s8, s9⟩
       go_simp
       with_reducible rfl
      rotate_left
      ·simp only [Act.put, List.setIfInBounds_toArray, List.set_cons_zero, List.set_cons_succ, i64_w, i32_w]
       rfl
      refine take_ (i := 14) (N := some 33) (v := ?_) (a' := ?_) #[true, true, true, true, true, true, true, true, true, true, true, true, true, false, true, false, false, false, false, false, false, false, false, false, false, false, false, false, false, false, false] rfl rfl (take_ofW HT_.out HW_.out (by kernel_rfl)) (fun _ _ _ h => h) (Or.inl ⟨by rfl, ?_⟩) hHeld ?_ ?_
      rotate_left
      ·rintro w' ⟨s0, s1, s2, s3, s4, s5, s6, s7, s8, s9⟩
       go_simp
       with_reducible rfl
      rotate_left
      ·simp only [Act.put, List.setIfInBounds_toArray, List.set_cons_zero, List.set_cons_succ, i64_w, i32_w]
       rfl
      refine one_ (i := 13) (N := some 32) #[true, true, true, true, true, true, true, true, true, true, true, true, true, true, true, false, false, false, false, false, false, false, false, false, false, false, false, false, false, false, false] rfl rfl (one_of HT_.out (by kernel_rfl)) (by decide) (fun K hK => ?_)
      refine goes_ Tryd.func13 (by kernel_rfl) rfl #[.agg #[.int .i64 t291, .int .i64 t292, .bool t293, .bool false, .int .i64 t295, .int .i64 t296, .int .i64 t297, .int .u32 t298, .int .u32 t299, .string t300]] (by first | rfl | exact wanted_on rfl rfl rfl (by first | rfl | (simp [*]; done) | (simp [*, IntKind.wrap_u32]; done))) rfl rfl (by (try simp only [List.map_toArray, List.map_cons, List.map_nil]); first | done | rfl | (simp only [List.length_drop, List.length_take]; rfl)) ?_
      with_reducible refine (inet_Check.calls t291 t292 t293 false t295 t296 t297 t298 t299 t300 t306 _ A9.out).mono ?_
      rintro e w35 ⟨rfl, hb⟩
      refine ⟨_, rfl, ?_⟩
      have n0_ := Aside0.mk (blk_below (g := gb290) (o := .cells #[.int .i64 t291, .int .i64 t292, .bool t293, .bool false, .int .i64 t295, .int .i64 t296, .int .i64 t297, .int .u32 t298, .int .u32 t299, .string t300] 24 (0, 0)) (by (with_reducible repeat (first | refine blk_drewN ?_ _ | refine blk_drew ?_ | refine blk_alloc ?_ _)); exact BK290.out) hb)
      have n1_ := Aside0.mk (below_step (by repeat (first | (with_reducible first | exact HB.out | apply below_alloc | apply pw_below_drewN | apply below_drew1 | refine below_set ?_ GE290.out) | exact HB.out)) hb)
      clear BK290
      clear HB
      have BK290 := n0_
      have HB := n1_
      clear n0_ n1_
      (try clear hb)
      (try clear hb2)
      (try clear hk)
      (try clear hi)
      refine hK.out _ _ ⟨(blk_cell BK290.out 0).trans rfl, (blk_cell BK290.out 1).trans rfl, (blk_cell BK290.out 2).trans rfl, (blk_cell BK290.out 3).trans rfl, (blk_cell BK290.out 4).trans rfl, (blk_cell BK290.out 5).trans rfl, (blk_cell BK290.out 6).trans rfl, (blk_cell BK290.out 7).trans rfl, (blk_cell BK290.out 8).trans rfl, (blk_cell BK290.out 9).trans rfl⟩ (fun hHeld => ?_)
      clear hK K
      refine norm_ (a' := ?_) ?_ ?_
      rotate_left
      ·show Act.put _ (some 32) _ = _
       simp only [Act.put, List.setIfInBounds_toArray, List.set_cons_zero, List.set_cons_succ, i64_w, i32_w]
       rfl
      refine one_ (i := 15) (N := some 34) #[true, true, true, true, true, true, true, true, true, true, true, true, true, true, true, true, false, false, false, false, false, false, false, false, false, false, false, false, false, false, false] rfl rfl (one_of HT_.out (by kernel_rfl)) (by decide) (fun K hK => ?_)
      refine goes_ Tryd.func14 (by kernel_rfl) rfl #[.agg #[.int .i64 t291, .int .i64 t292, .bool t293, .bool false, .int .i64 t295, .int .i64 t296, .int .i64 t297, .int .u32 t298, .int .u32 t299, .string t300]] (by first | rfl | exact wanted_on rfl rfl rfl (by first | rfl | (simp [*]; done) | (simp [*, IntKind.wrap_u32]; done))) rfl rfl (by (try simp only [List.map_toArray, List.map_cons, List.map_nil]); first | done | rfl | (simp only [List.length_drop, List.length_take]; rfl)) ?_
      with_reducible refine (gangwayref06_Check.calls t291 t292 t293 false t295 t296 t297 t298 t299 t300 t307 _ A10.out).mono ?_
      rintro e w36 ⟨rfl, hb⟩
      refine ⟨_, rfl, ?_⟩
      have n0_ := Aside0.mk (blk_below (g := gb290) (o := .cells #[.int .i64 t291, .int .i64 t292, .bool t293, .bool false, .int .i64 t295, .int .i64 t296, .int .i64 t297, .int .u32 t298, .int .u32 t299, .string t300] 24 (0, 0)) (by (with_reducible repeat (first | refine blk_drewN ?_ _ | refine blk_drew ?_ | refine blk_alloc ?_ _)); exact BK290.out) hb)
      have n1_ := Aside0.mk (below_step (by repeat (first | (with_reducible first | exact HB.out | apply below_alloc | apply pw_below_drewN | apply below_drew1 | refine below_set ?_ GE290.out) | exact HB.out)) hb)
      clear BK290
      clear HB
      have BK290 := n0_
      have HB := n1_
      clear n0_ n1_
      (try clear hb)
      (try clear hb2)
      (try clear hk)
      (try clear hi)
      refine hK.out _ _ ⟨(blk_cell BK290.out 0).trans rfl, (blk_cell BK290.out 1).trans rfl, (blk_cell BK290.out 2).trans rfl, (blk_cell BK290.out 3).trans rfl, (blk_cell BK290.out 4).trans rfl, (blk_cell BK290.out 5).trans rfl, (blk_cell BK290.out 6).trans rfl, (blk_cell BK290.out 7).trans rfl, (blk_cell BK290.out 8).trans rfl, (blk_cell BK290.out 9).trans rfl⟩ (fun hHeld => ?_)
      clear hK K
      refine norm_ (a' := ?_) ?_ ?_
      rotate_left
      ·show Act.put _ (some 34) _ = _
       simp only [Act.put, List.setIfInBounds_toArray, List.set_cons_zero, List.set_cons_succ, i64_w, i32_w]
       rfl
      refine pure_ (i := 16) (N := some 35) (v := ?_) (a' := ?_) #[true, true, true, true, true, true, true, true, true, true, true, true, true, true, true, true, true, false, false, false, false, false, false, false, false, false, false, false, false, false, false] rfl rfl (any_of HT_.out (by kernel_rfl)) (fun _ _ _ h => h) (Or.inl ⟨by rfl, ?_⟩) ?_ ?_
      rotate_left
      ·intro w'
       go_simp
       first | with_reducible rfl | (rw [if_neg (by (try simp only [decide_eq_true_eq, ByteArray.size_append, ByteArray.size_extract, eq_iff_iff, iff_true, iff_false, Nat.not_lt] at *); omega)]; try with_reducible rfl)
      rotate_left
      ·simp only [Act.put, List.setIfInBounds_toArray, List.set_cons_zero, List.set_cons_succ, i64_w, i32_w]
       rfl
      refine pure_ (i := 17) (N := some 36) (v := ?_) (a' := ?_) #[true, true, true, true, true, true, true, true, true, true, true, true, true, true, true, true, true, true, false, false, false, false, false, false, false, false, false, false, false, false, false] rfl rfl (any_of HT_.out (by kernel_rfl)) (fun _ _ _ h => h) (Or.inl ⟨by rfl, ?_⟩) ?_ ?_
      rotate_left
      ·intro w'
       go_simp
       first | with_reducible rfl | (rw [if_neg (by (try simp only [decide_eq_true_eq, ByteArray.size_append, ByteArray.size_extract, eq_iff_iff, iff_true, iff_false, Nat.not_lt] at *); omega)]; try with_reducible rfl)
      rotate_left
      ·simp only [Act.put, List.setIfInBounds_toArray, List.set_cons_zero, List.set_cons_succ, i64_w, i32_w]
       rfl
      refine pure_ (i := 18) (N := some 37) (v := ?_) (a' := ?_) #[true, true, true, true, true, true, true, true, true, true, true, true, true, true, true, true, true, true, true, false, false, false, false, false, false, false, false, false, false, false, false] rfl rfl (any_of HT_.out (by kernel_rfl)) (fun _ _ _ h => h) (Or.inl ⟨by rfl, ?_⟩) ?_ ?_
      rotate_left
      ·intro w'
       go_simp
       first | with_reducible rfl | (rw [if_neg (by (try simp only [decide_eq_true_eq, ByteArray.size_append, ByteArray.size_extract, eq_iff_iff, iff_true, iff_false, Nat.not_lt] at *); omega)]; try with_reducible rfl)
      rotate_left
      ·simp only [Act.put, List.setIfInBounds_toArray, List.set_cons_zero, List.set_cons_succ, i64_w, i32_w]
       rfl
      refine pure_ (i := 21) (N := some 40) (v := ?_) (a' := ?_) #[true, true, true, true, true, true, true, true, true, true, true, true, true, true, true, true, true, true, true, false, false, true, false, false, false, false, false, false, false, false, false] rfl rfl (any_of HT_.out (by kernel_rfl)) (fun _ _ _ h => h) (Or.inl ⟨by rfl, ?_⟩) ?_ ?_
      rotate_left
      ·intro w'
       go_simp
       first | with_reducible rfl | (rw [if_neg (by (try simp only [decide_eq_true_eq, ByteArray.size_append, ByteArray.size_extract, eq_iff_iff, iff_true, iff_false, Nat.not_lt] at *); omega)]; try with_reducible rfl)
      rotate_left
      ·simp only [Act.put, List.setIfInBounds_toArray, List.set_cons_zero, List.set_cons_succ, i64_w, i32_w]
       rfl
      refine take_ (i := 19) (N := some 38) (v := ?_) (a' := ?_) #[true, true, true, true, true, true, true, true, true, true, true, true, true, true, true, true, true, true, true, true, false, true, false, false, false, false, false, false, false, false, false] rfl rfl (take_ofW HT_.out HW_.out (by kernel_rfl)) (fun _ _ _ h => h) (Or.inl ⟨by rfl, ?_⟩) hHeld ?_ ?_
      rotate_left
      ·rintro w' ⟨s0, s1, s2, s3, s4, s5, s6, s7, s8, s9⟩
       go_simp
       with_reducible rfl
      rotate_left
      ·simp only [Act.put, List.setIfInBounds_toArray, List.set_cons_zero, List.set_cons_succ, i64_w, i32_w]
       rfl
      refine take_ (i := 22) (N := some 41) (v := ?_) (a' := ?_) #[true, true, true, true, true, true, true, true, true, true, true, true, true, true, true, true, true, true, true, true, false, true, true, false, false, false, false, false, false, false, false] rfl rfl (take_ofW HT_.out HW_.out (by kernel_rfl)) (fun _ _ _ h => h) (Or.inl ⟨by rfl, ?_⟩) hHeld ?_ ?_
      rotate_left
      ·rintro w' ⟨s0, s1, s2, s3, s4, s5, s6, s7, s8, s9⟩
       go_simp
       with_reducible rfl
      rotate_left
      ·simp only [Act.put, List.setIfInBounds_toArray, List.set_cons_zero, List.set_cons_succ, i64_w, i32_w]
       rfl
      refine one_ (i := 20) (N := some 39) #[true, true, true, true, true, true, true, true, true, true, true, true, true, true, true, true, true, true, true, true, true, true, true, false, false, false, false, false, false, false, false] rfl rfl (one_of HT_.out (by kernel_rfl)) (by decide) (fun K hK => ?_)
      refine goes_ Tryd.func15 (by kernel_rfl) rfl #[.agg #[.int .i64 t291, .int .i64 t292, .bool t293, .bool false, .int .i64 t295, .int .i64 t296, .int .i64 t297, .int .u32 t298, .int .u32 t299, .string t300]] (by first | rfl | exact wanted_on rfl rfl rfl (by first | rfl | (simp [*]; done) | (simp [*, IntKind.wrap_u32]; done))) rfl rfl (by (try simp only [List.map_toArray, List.map_cons, List.map_nil]); first | done | rfl | (simp only [List.length_drop, List.length_take]; rfl)) ?_
      with_reducible refine (inet_Part.calls t291 t292 t293 false t295 t296 t297 t298 t299 t300 t308 _ A12.out).mono ?_
      rintro e w37 ⟨rfl, hb⟩
      refine ⟨_, rfl, ?_⟩
      have n0_ := Aside0.mk (blk_below (g := gb290) (o := .cells #[.int .i64 t291, .int .i64 t292, .bool t293, .bool false, .int .i64 t295, .int .i64 t296, .int .i64 t297, .int .u32 t298, .int .u32 t299, .string t300] 24 (0, 0)) (by (with_reducible repeat (first | refine blk_drewN ?_ _ | refine blk_drew ?_ | refine blk_alloc ?_ _)); exact BK290.out) hb)
      have n1_ := Aside0.mk (below_step (by repeat (first | (with_reducible first | exact HB.out | apply below_alloc | apply pw_below_drewN | apply below_drew1 | refine below_set ?_ GE290.out) | exact HB.out)) hb)
      clear BK290
      clear HB
      have BK290 := n0_
      have HB := n1_
      clear n0_ n1_
      (try clear hb)
      (try clear hb2)
      (try clear hk)
      (try clear hi)
      refine hK.out _ _ ⟨(blk_cell BK290.out 0).trans rfl, (blk_cell BK290.out 1).trans rfl, (blk_cell BK290.out 2).trans rfl, (blk_cell BK290.out 3).trans rfl, (blk_cell BK290.out 4).trans rfl, (blk_cell BK290.out 5).trans rfl, (blk_cell BK290.out 6).trans rfl, (blk_cell BK290.out 7).trans rfl, (blk_cell BK290.out 8).trans rfl, (blk_cell BK290.out 9).trans rfl⟩ (fun hHeld => ?_)
      clear hK K
      refine norm_ (a' := ?_) ?_ ?_
      rotate_left
      ·show Act.put _ (some 39) _ = _
       simp only [Act.put, List.setIfInBounds_toArray, List.set_cons_zero, List.set_cons_succ, i64_w, i32_w]
       rfl
      refine pure_ (i := 23) (N := some 42) (v := ?_) (a' := ?_) #[true, true, true, true, true, true, true, true, true, true, true, true, true, true, true, true, true, true, true, true, true, true, true, true, false, false, false, false, false, false, false] rfl rfl (any_of HT_.out (by kernel_rfl)) (fun _ _ _ h => h) (Or.inl ⟨by rfl, ?_⟩) ?_ ?_
      rotate_left
      ·intro w'
       go_simp
       first | with_reducible rfl | (rw [if_neg (by (try simp only [decide_eq_true_eq, ByteArray.size_append, ByteArray.size_extract, eq_iff_iff, iff_true, iff_false, Nat.not_lt] at *); omega)]; try with_reducible rfl)
      rotate_left
      ·simp only [Act.put, List.setIfInBounds_toArray, List.set_cons_zero, List.set_cons_succ, i64_w, i32_w]
       rfl
      refine pure_ (i := 24) (N := some 43) (v := ?_) (a' := ?_) #[true, true, true, true, true, true, true, true, true, true, true, true, true, true, true, true, true, true, true, true, true, true, true, true, true, false, false, false, false, false, false] rfl rfl (any_of HT_.out (by kernel_rfl)) (fun _ _ _ h => h) (Or.inl ⟨by rfl, ?_⟩) ?_ ?_
      rotate_left
      ·intro w'
       go_simp
       first | with_reducible rfl | (rw [if_neg (by (try simp only [decide_eq_true_eq, ByteArray.size_append, ByteArray.size_extract, eq_iff_iff, iff_true, iff_false, Nat.not_lt] at *); omega)]; try with_reducible rfl)
      rotate_left
      ·simp only [Act.put, List.setIfInBounds_toArray, List.set_cons_zero, List.set_cons_succ, i64_w, i32_w]
       rfl
      refine take_ (i := 25) (N := some 44) (v := ?_) (a' := ?_) #[true, true, true, true, true, true, true, true, true, true, true, true, true, true, true, true, true, true, true, true, true, true, true, true, true, true, false, false, false, false, false] rfl rfl (take_ofW HT_.out HW_.out (by kernel_rfl)) (fun _ _ _ h => h) (Or.inl ⟨by rfl, ?_⟩) hHeld ?_ ?_
      rotate_left
      ·rintro w' ⟨s0, s1, s2, s3, s4, s5, s6, s7, s8, s9⟩
       go_simp
       with_reducible rfl
      rotate_left
      ·simp only [Act.put, List.setIfInBounds_toArray, List.set_cons_zero, List.set_cons_succ, i64_w, i32_w]
       rfl
      refine pure_ (i := 26) (N := some 45) (v := ?_) (a' := ?_) #[true, true, true, true, true, true, true, true, true, true, true, true, true, true, true, true, true, true, true, true, true, true, true, true, true, true, true, false, false, false, false] rfl rfl (any_of HT_.out (by kernel_rfl)) (fun _ _ _ h => h) (Or.inl ⟨by rfl, ?_⟩) ?_ ?_
      rotate_left
      ·intro w'
       go_simp
       first | with_reducible rfl | (rw [if_neg (by (try simp only [decide_eq_true_eq, ByteArray.size_append, ByteArray.size_extract, eq_iff_iff, iff_true, iff_false, Nat.not_lt] at *); omega)]; try with_reducible rfl)
      rotate_left
      ·simp only [Act.put, List.setIfInBounds_toArray, List.set_cons_zero, List.set_cons_succ, i64_w, i32_w]
       rfl
      refine pure_ (i := 27) (N := some 46) (v := ?_) (a' := ?_) #[true, true, true, true, true, true, true, true, true, true, true, true, true, true, true, true, true, true, true, true, true, true, true, true, true, true, true, true, false, false, false] rfl rfl (any_of HT_.out (by kernel_rfl)) (fun _ _ _ h => h) (Or.inl ⟨by rfl, ?_⟩) ?_ ?_
      rotate_left
      ·intro w'
       go_simp
       first | with_reducible rfl | (rw [if_neg (by (try simp only [decide_eq_true_eq, ByteArray.size_append, ByteArray.size_extract, eq_iff_iff, iff_true, iff_false, Nat.not_lt] at *); omega)]; try with_reducible rfl)
      rotate_left
      ·simp only [Act.put, List.setIfInBounds_toArray, List.set_cons_zero, List.set_cons_succ, i64_w, i32_w]
       rfl
      refine pure_ (i := 28) (N := some 47) (v := ?_) (a' := ?_) #[true, true, true, true, true, true, true, true, true, true, true, true, true, true, true, true, true, true, true, true, true, true, true, true, true, true, true, true, true, false, false] rfl rfl (any_of HT_.out (by kernel_rfl)) (fun _ _ _ h => h) (Or.inl ⟨by rfl, ?_⟩) ?_ ?_
      rotate_left
      ·intro w'
       go_simp
       first | with_reducible rfl | (rw [if_neg (by (try simp only [decide_eq_true_eq, ByteArray.size_append, ByteArray.size_extract, eq_iff_iff, iff_true, iff_false, Nat.not_lt] at *); omega)]; try with_reducible rfl)
      rotate_left
      ·simp only [Act.put, List.setIfInBounds_toArray, List.set_cons_zero, List.set_cons_succ, i64_w, i32_w]
       rfl
      refine pure_ (i := 29) (N := some 48) (v := ?_) (a' := ?_) #[true, true, true, true, true, true, true, true, true, true, true, true, true, true, true, true, true, true, true, true, true, true, true, true, true, true, true, true, true, true, false] rfl rfl (any_of HT_.out (by kernel_rfl)) (fun _ _ _ h => h) (Or.inl ⟨by rfl, ?_⟩) ?_ ?_
      rotate_left
      ·intro w'
       go_simp
       first | with_reducible rfl | (rw [if_neg (by (try simp only [decide_eq_true_eq, ByteArray.size_append, ByteArray.size_extract, eq_iff_iff, iff_true, iff_false, Nat.not_lt] at *); omega)]; try with_reducible rfl)
      rotate_left
      ·simp only [Act.put, List.setIfInBounds_toArray, List.set_cons_zero, List.set_cons_succ, i64_w, i32_w]
       rfl
      refine pure_ (i := 30) (N := some 2) (v := ?_) (a' := ?_) #[true, true, true, true, true, true, true, true, true, true, true, true, true, true, true, true, true, true, true, true, true, true, true, true, true, true, true, true, true, true, true] rfl rfl (any_of HT_.out (by kernel_rfl)) (fun _ _ _ h => h) (Or.inl ⟨by rfl, ?_⟩) ?_ ?_
      rotate_left
      ·intro w'
       go_simp
       first | with_reducible rfl | (rw [if_neg (by (try simp only [decide_eq_true_eq, ByteArray.size_append, ByteArray.size_extract, eq_iff_iff, iff_true, iff_false, Nat.not_lt] at *); omega)]; try with_reducible rfl)
      rotate_left
      ·simp only [Act.put, List.setIfInBounds_toArray, List.set_cons_zero, List.set_cons_succ, i64_w, i32_w]
       rfl
      refine done_ (done_of HT_.out (by kernel_rfl)) ?_
      try go_wp2
      go_ret
      exact ⟨by first | rfl | (simp [errW_none, errW_some] <;> rfl) | (simp [*, errW_none, errW_some] <;> rfl) | (simp [*, IntKind.wrap_u32]; done) | (simp_all [IntKind.wrap_u32]; done), by repeat (first | (with_reducible first | exact HB.out | apply below_alloc | apply pw_below_drewN | apply below_drew1 | refine below_set ?_ GE290.out) | exact HB.out)⟩
    ·rw [if_neg c11] at H
     have c11b0 : (t306 == t307) = false := beq_eq_false_iff_ne.mpr c11
     have c11b1 : (t306 != t307) = true := bne_iff_ne.mpr c11
     exact absurd H (by simp)
   ·rw [if_neg c8] at H
    have c8b0 : (t302 == t304) = false := beq_eq_false_iff_ne.mpr c8
    have c8b1 : (t302 != t304) = true := bne_iff_ne.mpr c8
    exact absurd H (by simp)
  ·rw [if_neg c7] at H
   have c7b0 : (t301.toList == t303.toList) = false := beq_eq_false_iff_ne.mpr c7
   have c7b1 : (t301.toList != t303.toList) = true := bne_iff_ne.mpr c7
   exact absurd H (by simp)
 ·replace c6 := Bool.eq_false_iff.mpr c6
  subst c6
  have H1 : (none) = some r := by rw [if_neg (show ¬ (false = true) by decide)] at H; exact H
  clear H
  have H := H1
  clear H1
  exact absurd H (by simp)

end Go.Proofs.YtigagipeaheclaaDoor.P
