-- squeezed
-- Written by wip/hprint.py (this session's program) through the kit's print program; hand contracts are marked 'by hand'.
import Derived.Test.YtigagipeaheclaaDoorPx0
import Derived.Test.YtigagipeaheclaaDoorPx1
import Derived.Test.YtigagipeaheclaaDoorPx2
import Derived.Test.YtigagipeaheclaaDoorPx7
import Derived.Test.YtigagipeaheclaaDoorPx15
import Derived.Test.YtigagipeaheclaaDoorPx16
import Derived.Test.YtigagipeaheclaaDoorPx18
namespace Go.Proofs.YtigagipeaheclaaDoor.P
open Go.RowKit Go.Proofs.YtigagipeaheclaaDoorW.PrintWords Go.Proofs.YtigagipeaheclaaDoorW.PrintLast Go.Proofs.YtigagipeaheclaaDoorW.PrintMore
attribute [local go_sem] max2_int min2_int max_two min_two max_three min_three max_four min_four   -- for this text's walks alone
set_option linter.unusedVariables false
set_option linter.unusedSimpArgs false

attribute [local go_sem high] eqA24
/-! ### gangwaylaw06_InetOlder: function 6 -/
mutual
def gangwaylaw06_InetOlder.l0 : Nat → Int → ByteArray → Int → Int → Int → Bool → Bool → Int → Int → Int → Int → Int → ByteArray → Option (Bool)
 | 0, _, _, _, _, _, _, _, _, _, _, _, _, _ => none
 | k + 1, x1, x5, x7, x413000, x413001, x413002, x413003, x413004, x413005, x413006, x413007, x413008, x413009 => gangwaylaw06_InetOlder.j1 k x1 x5 x7 (decide (x7 < (Go.bits .and .i64 x1 31))) x413000 x413001 x413002 x413003 x413004 x413005 x413006 x413007 x413008 x413009
def gangwaylaw06_InetOlder.j1 : Nat → Int → ByteArray → Int → Bool → Int → Int → Bool → Bool → Int → Int → Int → Int → Int → ByteArray → Option (Bool)
 | 0, _, _, _, _, _, _, _, _, _, _, _, _, _, _ => none
 | k + 1, x1, x5, x7, x29, x413000, x413001, x413002, x413003, x413004, x413005, x413006, x413007, x413008, x413009 => if x29 = true then ((inet_Older.f k x5).bind fun bt427 => (if x413005 = 0 then (if bt427.2 = 61 then (if bt427.1.toList = ([] : List UInt8) then ((gangwaylaw06_fixed.f k).bind fun t429 => (some t429)) else (none)) else (none)) else (gangwaylaw06_InetOlder.j2 k x1 x5 x7 bt427.1 bt427.2 x413000 x413001 x413002 x413003 x413004 (wrap64 (x413005 - 1)) x413006 x413007 x413008 x413009))) else ((gangwaylaw06_fixed.f k).bind fun t426 => (some t426))
def gangwaylaw06_InetOlder.j2 : Nat → Int → ByteArray → Int → ByteArray → Int → Int → Int → Bool → Bool → Int → Int → Int → Int → Int → ByteArray → Option (Bool)
 | 0, _, _, _, _, _, _, _, _, _, _, _, _, _, _, _ => none
 | k + 1, x1, x5, x7, x8, x9, x413000, x413001, x413002, x413003, x413004, x413005, x413006, x413007, x413008, x413009 => (inet_Parse.f k x8).bind fun bt430 => (if x9 = 0 then (if bt430.2.2.2.2.2.2.2.2.2.2 = 0 then (if (!(bt430.1 == x413000) || (!(bt430.2.1 == x413001) || (!(bt430.2.2.1 == x413002) || (!(bt430.2.2.2.1 == x413003) || (!(bt430.2.2.2.2.1 == x413004) || (!(bt430.2.2.2.2.2.1 == x413005) || (!(bt430.2.2.2.2.2.2.1 == x413006) || (!(bt430.2.2.2.2.2.2.2.1 == x413007) || (!(bt430.2.2.2.2.2.2.2.2.1 == x413008) || (!(bt430.2.2.2.2.2.2.2.2.2.1.toList == x413009.toList))))))))))) = true then (none) else (if (x8.size : Int) = (x5.size : Int) then (gangwaylaw06_InetOlder.l0 k x1 x8 (wrap64 (x7 + 1)) x413000 x413001 x413002 x413003 x413004 x413005 x413006 x413007 x413008 x413009) else (none))) else (none)) else (none))
end
def gangwaylaw06_InetOlder.f (k : Nat) (a0_0 : Int) (a0_1 : Int) (a0_2 : Bool) (a0_3 : Bool) (a0_4 : Int) (a0_5 : Int) (a0_6 : Int) (a0_7 : Int) (a0_8 : Int) (a0_9 : ByteArray) (a1 : Int) : Option (Bool) := (gangwaylaw06_cut.f a0_0 a0_1 a0_2 a0_3 a0_4 a0_5 a0_6 a0_7 a0_8 a0_9).bind fun bt413 => ((inet_Build.f k bt413.1 bt413.2.1 bt413.2.2.1 bt413.2.2.2.1 bt413.2.2.2.2.1 bt413.2.2.2.2.2.1 bt413.2.2.2.2.2.2.1 bt413.2.2.2.2.2.2.2.1 bt413.2.2.2.2.2.2.2.2.1 bt413.2.2.2.2.2.2.2.2.2).bind fun bt423 => (if bt423.2 = 0 then (gangwaylaw06_InetOlder.l0 k a1 bt423.1 0 bt413.1 bt413.2.1 bt413.2.2.1 bt413.2.2.2.1 bt413.2.2.2.2.1 bt413.2.2.2.2.2.1 bt413.2.2.2.2.2.2.1 bt413.2.2.2.2.2.2.2.1 bt413.2.2.2.2.2.2.2.2.1 bt413.2.2.2.2.2.2.2.2.2) else (if bt423.1.toList = ([] : List UInt8) then ((gangwaylaw06_fixed.f k).bind fun t425 => (some t425)) else (none))))
theorem gangwaylaw06_InetOlder.mono_l : ∀ k, (∀ y0 y1 y2 y3 y4 y5 y6 y7 y8 y9 y10 y11 y12, LeO (gangwaylaw06_InetOlder.l0 k y0 y1 y2 y3 y4 y5 y6 y7 y8 y9 y10 y11 y12) (gangwaylaw06_InetOlder.l0 (k + 1) y0 y1 y2 y3 y4 y5 y6 y7 y8 y9 y10 y11 y12)) ∧ (∀ y0 y1 y2 y3 y4 y5 y6 y7 y8 y9 y10 y11 y12 y13, LeO (gangwaylaw06_InetOlder.j1 k y0 y1 y2 y3 y4 y5 y6 y7 y8 y9 y10 y11 y12 y13) (gangwaylaw06_InetOlder.j1 (k + 1) y0 y1 y2 y3 y4 y5 y6 y7 y8 y9 y10 y11 y12 y13)) ∧ (∀ y0 y1 y2 y3 y4 y5 y6 y7 y8 y9 y10 y11 y12 y13 y14, LeO (gangwaylaw06_InetOlder.j2 k y0 y1 y2 y3 y4 y5 y6 y7 y8 y9 y10 y11 y12 y13 y14) (gangwaylaw06_InetOlder.j2 (k + 1) y0 y1 y2 y3 y4 y5 y6 y7 y8 y9 y10 y11 y12 y13 y14))
 | 0 => ⟨fun _ _ _ _ _ _ _ _ _ _ _ _ _ r h => by simp [gangwaylaw06_InetOlder.l0] at h, fun _ _ _ _ _ _ _ _ _ _ _ _ _ _ r h => by simp [gangwaylaw06_InetOlder.j1] at h, fun _ _ _ _ _ _ _ _ _ _ _ _ _ _ _ r h => by simp [gangwaylaw06_InetOlder.j2] at h⟩
 | k + 1 => by
  obtain ⟨ih0, ih1, ih2⟩ := gangwaylaw06_InetOlder.mono_l k
  refine ⟨?_, ?_, ?_⟩
  ·intro y0 y1 y2 y3 y4 y5 y6 y7 y8 y9 y10 y11 y12
   unfold gangwaylaw06_InetOlder.l0
   repeat' first
   | (with_reducible exact ih0 _ _ _ _ _ _ _ _ _ _ _ _ _)
   | (with_reducible exact ih1 _ _ _ _ _ _ _ _ _ _ _ _ _ _)
   | (with_reducible exact ih2 _ _ _ _ _ _ _ _ _ _ _ _ _ _ _)
   | (with_reducible exact gangwaylaw06_fixed.mono _)
   | (with_reducible exact inet_Build.mono _ _ _ _ _ _ _ _ _ _ _)
   | (with_reducible exact inet_Older.mono _ _)
   | (with_reducible exact inet_Parse.mono _ _)
   | (with_reducible exact LeO.refl _)
   | (with_reducible exact LeO.none _)
   | (with_reducible refine LeO.ite ?_ ?_)
   | (with_reducible refine LeO.bind ?_ (fun _ => ?_))
   | exact ih0 _ _ _ _ _ _ _ _ _ _ _ _ _
   | exact ih1 _ _ _ _ _ _ _ _ _ _ _ _ _ _
   | exact ih2 _ _ _ _ _ _ _ _ _ _ _ _ _ _ _
   | exact gangwaylaw06_fixed.mono _
   | exact inet_Build.mono _ _ _ _ _ _ _ _ _ _ _
   | exact inet_Older.mono _ _
   | exact inet_Parse.mono _ _
   | exact LeO.none _
   | refine LeO.ite ?_ ?_
   | refine LeO.bind ?_ (fun _ => ?_)
  ·intro y0 y1 y2 y3 y4 y5 y6 y7 y8 y9 y10 y11 y12 y13
   unfold gangwaylaw06_InetOlder.j1
   repeat' first
   | (with_reducible exact ih0 _ _ _ _ _ _ _ _ _ _ _ _ _)
   | (with_reducible exact ih1 _ _ _ _ _ _ _ _ _ _ _ _ _ _)
   | (with_reducible exact ih2 _ _ _ _ _ _ _ _ _ _ _ _ _ _ _)
   | (with_reducible exact gangwaylaw06_fixed.mono _)
   | (with_reducible exact inet_Build.mono _ _ _ _ _ _ _ _ _ _ _)
   | (with_reducible exact inet_Older.mono _ _)
   | (with_reducible exact inet_Parse.mono _ _)
   | (with_reducible exact LeO.refl _)
   | (with_reducible exact LeO.none _)
   | (with_reducible refine LeO.ite ?_ ?_)
   | (with_reducible refine LeO.bind ?_ (fun _ => ?_))
   | exact ih0 _ _ _ _ _ _ _ _ _ _ _ _ _
   | exact ih1 _ _ _ _ _ _ _ _ _ _ _ _ _ _
   | exact ih2 _ _ _ _ _ _ _ _ _ _ _ _ _ _ _
   | exact gangwaylaw06_fixed.mono _
   | exact inet_Build.mono _ _ _ _ _ _ _ _ _ _ _
   | exact inet_Older.mono _ _
   | exact inet_Parse.mono _ _
   | exact LeO.none _
   | refine LeO.ite ?_ ?_
   | refine LeO.bind ?_ (fun _ => ?_)
  ·intro y0 y1 y2 y3 y4 y5 y6 y7 y8 y9 y10 y11 y12 y13 y14
   unfold gangwaylaw06_InetOlder.j2
   repeat' first
   | (with_reducible exact ih0 _ _ _ _ _ _ _ _ _ _ _ _ _)
   | (with_reducible exact ih1 _ _ _ _ _ _ _ _ _ _ _ _ _ _)
   | (with_reducible exact ih2 _ _ _ _ _ _ _ _ _ _ _ _ _ _ _)
   | (with_reducible exact gangwaylaw06_fixed.mono _)
   | (with_reducible exact inet_Build.mono _ _ _ _ _ _ _ _ _ _ _)
   | (with_reducible exact inet_Older.mono _ _)
   | (with_reducible exact inet_Parse.mono _ _)
   | (with_reducible exact LeO.refl _)
   | (with_reducible exact LeO.none _)
   | (with_reducible refine LeO.ite ?_ ?_)
   | (with_reducible refine LeO.bind ?_ (fun _ => ?_))
   | exact ih0 _ _ _ _ _ _ _ _ _ _ _ _ _
   | exact ih1 _ _ _ _ _ _ _ _ _ _ _ _ _ _
   | exact ih2 _ _ _ _ _ _ _ _ _ _ _ _ _ _ _
   | exact gangwaylaw06_fixed.mono _
   | exact inet_Build.mono _ _ _ _ _ _ _ _ _ _ _
   | exact inet_Older.mono _ _
   | exact inet_Parse.mono _ _
   | exact LeO.none _
   | refine LeO.ite ?_ ?_
   | refine LeO.bind ?_ (fun _ => ?_)
theorem gangwaylaw06_InetOlder.mono : ∀ a0 a1 a2 a3 a4 a5 a6 a7 a8 a9 a10 k, LeO (gangwaylaw06_InetOlder.f k a0 a1 a2 a3 a4 a5 a6 a7 a8 a9 a10) (gangwaylaw06_InetOlder.f (k + 1) a0 a1 a2 a3 a4 a5 a6 a7 a8 a9 a10) := by
 intro a0 a1 a2 a3 a4 a5 a6 a7 a8 a9 a10 k
 obtain ⟨ih0, ih1, ih2⟩ := gangwaylaw06_InetOlder.mono_l k
 unfold gangwaylaw06_InetOlder.f
 repeat' first
   | (with_reducible exact ih0 _ _ _ _ _ _ _ _ _ _ _ _ _)
   | (with_reducible exact ih1 _ _ _ _ _ _ _ _ _ _ _ _ _ _)
   | (with_reducible exact ih2 _ _ _ _ _ _ _ _ _ _ _ _ _ _ _)
   | (with_reducible exact gangwaylaw06_fixed.mono _)
   | (with_reducible exact inet_Build.mono _ _ _ _ _ _ _ _ _ _ _)
   | (with_reducible exact inet_Older.mono _ _)
   | (with_reducible exact inet_Parse.mono _ _)
   | (with_reducible exact LeO.refl _)
   | (with_reducible exact LeO.none _)
   | (with_reducible refine LeO.ite ?_ ?_)
   | (with_reducible refine LeO.bind ?_ (fun _ => ?_))
   | exact ih0 _ _ _ _ _ _ _ _ _ _ _ _ _
   | exact ih1 _ _ _ _ _ _ _ _ _ _ _ _ _ _
   | exact ih2 _ _ _ _ _ _ _ _ _ _ _ _ _ _ _
   | exact gangwaylaw06_fixed.mono _
   | exact inet_Build.mono _ _ _ _ _ _ _ _ _ _ _
   | exact inet_Older.mono _ _
   | exact inet_Parse.mono _ _
   | exact LeO.none _
   | refine LeO.ite ?_ ?_
   | refine LeO.bind ?_ (fun _ => ?_)
set_option maxHeartbeats 8000000 in
set_option maxRecDepth 100000 in
theorem gangwaylaw06_InetOlder.calls (k : Nat) (a0_0 : Int) (a0_1 : Int) (a0_2 : Bool) (a0_3 : Bool) (a0_4 : Int) (a0_5 : Int) (a0_6 : Int) (a0_7 : Int) (a0_8 : Int) (a0_9 : ByteArray) (a1 : Int) (r : Bool) (w : World) (hL : Laid w) (h : gangwaylaw06_InetOlder.f k a0_0 a0_1 a0_2 a0_3 a0_4 a0_5 a0_6 a0_7 a0_8 a0_9 a1 = some r) :
  Calls Tryd.prog 6 #[.agg #[.int .i64 a0_0, .int .i64 a0_1, .bool a0_2, .bool a0_3, .int .i64 a0_4, .int .i64 a0_5, .int .i64 a0_6, .int .u32 a0_7, .int .u32 a0_8, .string a0_9], .int .i64 a1] w fun e w' => e = .returned (.bool r) ∧ Below w.heap.size w w' := by
 have HLD := Aside0.mk hL
 clear hL
 have hu24 := Tryd.underlying24
 have HB := Aside0.mk (Below.refl w.heap.size w)
 have H : ((gangwaylaw06_cut.f a0_0 a0_1 a0_2 a0_3 a0_4 a0_5 a0_6 a0_7 a0_8 a0_9).bind fun bt413 => ((inet_Build.f k bt413.1 bt413.2.1 bt413.2.2.1 bt413.2.2.2.1 bt413.2.2.2.2.1 bt413.2.2.2.2.2.1 bt413.2.2.2.2.2.2.1 bt413.2.2.2.2.2.2.2.1 bt413.2.2.2.2.2.2.2.2.1 bt413.2.2.2.2.2.2.2.2.2).bind fun bt423 => (if bt423.2 = 0 then (gangwaylaw06_InetOlder.l0 k a1 bt423.1 0 bt413.1 bt413.2.1 bt413.2.2.1 bt413.2.2.2.1 bt413.2.2.2.2.1 bt413.2.2.2.2.2.1 bt413.2.2.2.2.2.2.1 bt413.2.2.2.2.2.2.2.1 bt413.2.2.2.2.2.2.2.2.1 bt413.2.2.2.2.2.2.2.2.2) else (if bt423.1.toList = ([] : List UInt8) then ((gangwaylaw06_fixed.f k).bind fun t425 => (some t425)) else (none))))) = some r := h
 clear h
 replace H := Option.bind_eq_some_iff.mp H
 obtain ⟨⟨t413, t414, t415, t416, t417, t418, t419, t420, t421, t422⟩, A30, H⟩ := H
 replace H : ((inet_Build.f k t413 t414 t415 t416 t417 t418 t419 t420 t421 t422).bind fun bt423 => (if bt423.2 = 0 then (gangwaylaw06_InetOlder.l0 k a1 bt423.1 0 t413 t414 t415 t416 t417 t418 t419 t420 t421 t422) else (if bt423.1.toList = ([] : List UInt8) then ((gangwaylaw06_fixed.f k).bind fun t425 => (some t425)) else (none)))) = some r := H
 have A3 := Aside0.mk A30
 clear A30
 replace H := Option.bind_eq_some_iff.mp H
 obtain ⟨⟨t423, t424⟩, A40, H⟩ := H
 replace H : (if t424 = 0 then (gangwaylaw06_InetOlder.l0 k a1 t423 0 t413 t414 t415 t416 t417 t418 t419 t420 t421 t422) else (if t423.toList = ([] : List UInt8) then ((gangwaylaw06_fixed.f k).bind fun t425 => (some t425)) else (none))) = some r := H
 have A4 := Aside0.mk A40
 clear A40
 by_cases c5 : t424 = 0
 ·rw [if_pos c5] at H
  have c5b0 : (t424 == 0) = true := beq_iff_eq.mpr c5
  have c5b1 : (t424 != 0) = false := bne_eq_false_iff_eq.mpr c5
  clear c5
  have H' := Aside0.mk H
  clear H
  go_enter Tryd.func6, Tryd.ntmps6
  go_wp2_with (first | ((with_reducible refine gate_dst (N := 2) rfl ?_); (try (refine gate_guard (by rfl) ?_; dsimp only)); refine box_event ?hg (N := 2) ?hd (cs := #[.int .i64 a0_0, .int .i64 a0_1, .bool a0_2, .bool a0_3, .int .i64 a0_4, .int .i64 a0_5, .int .i64 a0_6, .int .u32 a0_7, .int .u32 a0_8, .string a0_9]) (t := 24) ?hr ?_; (case hd => rfl); (case hg => rfl); (case hr => first | (go_simp; done) | (go_simp; rfl)); intro gb412 hg w6 hbox hb; have n0_ := Aside0.mk (below_step (by repeat (first | (with_reducible first | exact HB.out | apply below_alloc | apply pw_below_drewN | apply below_drew1) | exact HB.out)) hb); have n1_ := Aside0.mk (hbox); have n2_ := Aside0.mk ((by rw [hg]; exact (below_size (by repeat (first | (with_reducible first | exact HB.out | apply below_alloc | apply pw_below_drewN | apply below_drew1) | exact HB.out))) : w.heap.size ≤ gb412)); have n3_ := Aside0.mk ((by rw [hg]; exact (below_size (by repeat (first | (with_reducible first | exact HB.out | apply below_alloc | apply pw_below_drewN | apply below_drew1) | exact HB.out))) : w.heap.size ≤ gb412)); clear HB; have HB := n0_; have BK412 := n1_; have GW412 := n2_; have GE412 := n3_; clear n0_ n1_ n2_ n3_; clear hb hbox hg; have hcz7_0 : w6.cell? ⟨gb412, 0, none⟩ = some (.int .i64 a0_0) := (blk_cell BK412.out 0).trans rfl; have hcz7_1 : w6.cell? ⟨gb412, 1, none⟩ = some (.int .i64 a0_1) := (blk_cell BK412.out 1).trans rfl; have hcz7_2 : w6.cell? ⟨gb412, 2, none⟩ = some (.bool a0_2) := (blk_cell BK412.out 2).trans rfl; have hcz7_3 : w6.cell? ⟨gb412, 3, none⟩ = some (.bool a0_3) := (blk_cell BK412.out 3).trans rfl; have hcz7_4 : w6.cell? ⟨gb412, 4, none⟩ = some (.int .i64 a0_4) := (blk_cell BK412.out 4).trans rfl; have hcz7_5 : w6.cell? ⟨gb412, 5, none⟩ = some (.int .i64 a0_5) := (blk_cell BK412.out 5).trans rfl; have hcz7_6 : w6.cell? ⟨gb412, 6, none⟩ = some (.int .i64 a0_6) := (blk_cell BK412.out 6).trans rfl; have hcz7_7 : w6.cell? ⟨gb412, 7, none⟩ = some (.int .u32 a0_7) := (blk_cell BK412.out 7).trans rfl; have hcz7_8 : w6.cell? ⟨gb412, 8, none⟩ = some (.int .u32 a0_8) := (blk_cell BK412.out 8).trans rfl; have hcz7_9 : w6.cell? ⟨gb412, 9, none⟩ = some (.string a0_9) := (blk_cell BK412.out 9).trans rfl; have hfz7_0 := blk_frozen BK412.out 0; have hfz7_1 := blk_frozen BK412.out 1; have hfz7_2 := blk_frozen BK412.out 2; have hfz7_3 := blk_frozen BK412.out 3; have hfz7_4 := blk_frozen BK412.out 4; have hfz7_5 := blk_frozen BK412.out 5; have hfz7_6 := blk_frozen BK412.out 6; have hfz7_7 := blk_frozen BK412.out 7; have hfz7_8 := blk_frozen BK412.out 8; have hfz7_9 := blk_frozen BK412.out 9) | ((with_reducible refine gate_callee (f := 9) rfl ?_); refine goesL_ (some 13) rfl rfl Tryd.func9 (by kernel_rfl) rfl #[.agg #[.int .i64 a0_0, .int .i64 a0_1, .bool a0_2, .bool a0_3, .int .i64 a0_4, .int .i64 a0_5, .int .i64 a0_6, .int .u32 a0_7, .int .u32 a0_8, .string a0_9]] rfl (by (try simp only [List.map_toArray, List.map_cons, List.map_nil]); first | done | rfl | (simp only [List.length_drop, List.length_take]; rfl)) ?_; (with_reducible refine (gangwaylaw06_cut.calls a0_0 a0_1 a0_2 a0_3 a0_4 a0_5 a0_6 a0_7 a0_8 a0_9 t413 t414 t415 t416 t417 t418 t419 t420 t421 t422 _ A3.out).mono ?_); rintro e w8 ⟨rfl, hb⟩; refine ⟨_, rfl, ?_⟩; have n0_ := Aside0.mk (blk_below (g := gb412) (o := .cells #[.int .i64 a0_0, .int .i64 a0_1, .bool a0_2, .bool a0_3, .int .i64 a0_4, .int .i64 a0_5, .int .i64 a0_6, .int .u32 a0_7, .int .u32 a0_8, .string a0_9] 24 (0, 0)) (by (with_reducible repeat (first | refine blk_drewN ?_ _ | refine blk_drew ?_ | refine blk_alloc ?_ _)); exact BK412.out) hb); have n1_ := Aside0.mk (below_step (by repeat (first | (with_reducible first | exact HB.out | apply below_alloc | apply pw_below_drewN | apply below_drew1 | refine below_set ?_ GE412.out) | exact HB.out)) hb); clear BK412; clear HB; have BK412 := n0_; have HB := n1_; clear n0_ n1_; have hcy1_412_0 := (show World.cell? _ ⟨gb412, 0, none⟩ = some (.int .i64 a0_0) from (blk_cell BK412.out 0).trans rfl); have hcy1_412_1 := (show World.cell? _ ⟨gb412, 1, none⟩ = some (.int .i64 a0_1) from (blk_cell BK412.out 1).trans rfl); have hcy1_412_2 := (show World.cell? _ ⟨gb412, 2, none⟩ = some (.bool a0_2) from (blk_cell BK412.out 2).trans rfl); have hcy1_412_3 := (show World.cell? _ ⟨gb412, 3, none⟩ = some (.bool a0_3) from (blk_cell BK412.out 3).trans rfl); have hcy1_412_4 := (show World.cell? _ ⟨gb412, 4, none⟩ = some (.int .i64 a0_4) from (blk_cell BK412.out 4).trans rfl); have hcy1_412_5 := (show World.cell? _ ⟨gb412, 5, none⟩ = some (.int .i64 a0_5) from (blk_cell BK412.out 5).trans rfl); have hcy1_412_6 := (show World.cell? _ ⟨gb412, 6, none⟩ = some (.int .i64 a0_6) from (blk_cell BK412.out 6).trans rfl); have hcy1_412_7 := (show World.cell? _ ⟨gb412, 7, none⟩ = some (.int .u32 a0_7) from (blk_cell BK412.out 7).trans rfl); have hcy1_412_8 := (show World.cell? _ ⟨gb412, 8, none⟩ = some (.int .u32 a0_8) from (blk_cell BK412.out 8).trans rfl); have hcy1_412_9 := (show World.cell? _ ⟨gb412, 9, none⟩ = some (.string a0_9) from (blk_cell BK412.out 9).trans rfl); (try clear hb); (try clear hb2); (try clear hk); (try clear hi); have hcz9_0 : w8.cell? ⟨gb412, 0, none⟩ = some (.int .i64 a0_0) := (blk_cell BK412.out 0).trans rfl; have hcz9_1 : w8.cell? ⟨gb412, 1, none⟩ = some (.int .i64 a0_1) := (blk_cell BK412.out 1).trans rfl; have hcz9_2 : w8.cell? ⟨gb412, 2, none⟩ = some (.bool a0_2) := (blk_cell BK412.out 2).trans rfl; have hcz9_3 : w8.cell? ⟨gb412, 3, none⟩ = some (.bool a0_3) := (blk_cell BK412.out 3).trans rfl; have hcz9_4 : w8.cell? ⟨gb412, 4, none⟩ = some (.int .i64 a0_4) := (blk_cell BK412.out 4).trans rfl; have hcz9_5 : w8.cell? ⟨gb412, 5, none⟩ = some (.int .i64 a0_5) := (blk_cell BK412.out 5).trans rfl; have hcz9_6 : w8.cell? ⟨gb412, 6, none⟩ = some (.int .i64 a0_6) := (blk_cell BK412.out 6).trans rfl; have hcz9_7 : w8.cell? ⟨gb412, 7, none⟩ = some (.int .u32 a0_7) := (blk_cell BK412.out 7).trans rfl; have hcz9_8 : w8.cell? ⟨gb412, 8, none⟩ = some (.int .u32 a0_8) := (blk_cell BK412.out 8).trans rfl; have hcz9_9 : w8.cell? ⟨gb412, 9, none⟩ = some (.string a0_9) := (blk_cell BK412.out 9).trans rfl; have hfz9_0 := blk_frozen BK412.out 0; have hfz9_1 := blk_frozen BK412.out 1; have hfz9_2 := blk_frozen BK412.out 2; have hfz9_3 := blk_frozen BK412.out 3; have hfz9_4 := blk_frozen BK412.out 4; have hfz9_5 := blk_frozen BK412.out 5; have hfz9_6 := blk_frozen BK412.out 6; have hfz9_7 := blk_frozen BK412.out 7; have hfz9_8 := blk_frozen BK412.out 8; have hfz9_9 := blk_frozen BK412.out 9) | (obtain ⟨w8f, hgw_⟩ : ∃ y, y = (World.setCell (World.setCell (World.setCell (World.setCell w8 ⟨gb412, 0, none⟩ (.int .i64 t413)) ⟨gb412, 1, none⟩ (.int .i64 t414)) ⟨gb412, 2, none⟩ (.bool t415)) ⟨gb412, 3, none⟩ (.bool t416)) := ⟨_, rfl⟩; rw [← hgw_]; have m0_ := Aside0.mk (show w8f.heap[gb412]? = some (.cells #[.int .i64 t413, .int .i64 t414, .bool t415, .bool t416, .int .i64 a0_4, .int .i64 a0_5, .int .i64 a0_6, .int .u32 a0_7, .int .u32 a0_8, .string a0_9] 24 (0, 0)) from (by rw [hgw_]; refine blk_put (cs := #[.int .i64 t413, .int .i64 t414, .bool t415, .bool a0_3, .int .i64 a0_4, .int .i64 a0_5, .int .i64 a0_6, .int .u32 a0_7, .int .u32 a0_8, .string a0_9]) ?_ 3 _ rfl; (with_reducible repeat (first | refine blk_drewN ?_ _ | refine blk_drew ?_ | refine blk_alloc ?_ _)); refine blk_put (cs := #[.int .i64 t413, .int .i64 t414, .bool a0_2, .bool a0_3, .int .i64 a0_4, .int .i64 a0_5, .int .i64 a0_6, .int .u32 a0_7, .int .u32 a0_8, .string a0_9]) ?_ 2 _ rfl; (with_reducible repeat (first | refine blk_drewN ?_ _ | refine blk_drew ?_ | refine blk_alloc ?_ _)); refine blk_put (cs := #[.int .i64 t413, .int .i64 a0_1, .bool a0_2, .bool a0_3, .int .i64 a0_4, .int .i64 a0_5, .int .i64 a0_6, .int .u32 a0_7, .int .u32 a0_8, .string a0_9]) ?_ 1 _ rfl; (with_reducible repeat (first | refine blk_drewN ?_ _ | refine blk_drew ?_ | refine blk_alloc ?_ _)); refine blk_put (cs := #[.int .i64 a0_0, .int .i64 a0_1, .bool a0_2, .bool a0_3, .int .i64 a0_4, .int .i64 a0_5, .int .i64 a0_6, .int .u32 a0_7, .int .u32 a0_8, .string a0_9]) ?_ 0 _ rfl; (with_reducible repeat (first | refine blk_drewN ?_ _ | refine blk_drew ?_ | refine blk_alloc ?_ _)); exact BK412.out)); have mb_ := Aside0.mk (show Below w.heap.size w w8f from (by rw [hgw_]; exact (by repeat (first | (with_reducible first | exact HB.out | apply below_alloc | apply pw_below_drewN | apply below_drew1 | refine below_set ?_ GE412.out) | exact HB.out)))); clear BK412; have BK412 := m0_; clear m0_; clear HB; have HB := mb_; clear mb_; clear hgw_; have hcf412_0 : w8f.cell? ⟨gb412, 0, none⟩ = some (.int .i64 t413) := (blk_cell BK412.out 0).trans rfl; have hcf412_1 : w8f.cell? ⟨gb412, 1, none⟩ = some (.int .i64 t414) := (blk_cell BK412.out 1).trans rfl; have hcf412_2 : w8f.cell? ⟨gb412, 2, none⟩ = some (.bool t415) := (blk_cell BK412.out 2).trans rfl; have hcf412_3 : w8f.cell? ⟨gb412, 3, none⟩ = some (.bool t416) := (blk_cell BK412.out 3).trans rfl; have hcf412_4 : w8f.cell? ⟨gb412, 4, none⟩ = some (.int .i64 a0_4) := (blk_cell BK412.out 4).trans rfl; have hcf412_5 : w8f.cell? ⟨gb412, 5, none⟩ = some (.int .i64 a0_5) := (blk_cell BK412.out 5).trans rfl; have hcf412_6 : w8f.cell? ⟨gb412, 6, none⟩ = some (.int .i64 a0_6) := (blk_cell BK412.out 6).trans rfl; have hcf412_7 : w8f.cell? ⟨gb412, 7, none⟩ = some (.int .u32 a0_7) := (blk_cell BK412.out 7).trans rfl; have hcf412_8 : w8f.cell? ⟨gb412, 8, none⟩ = some (.int .u32 a0_8) := (blk_cell BK412.out 8).trans rfl; have hcf412_9 : w8f.cell? ⟨gb412, 9, none⟩ = some (.string a0_9) := (blk_cell BK412.out 9).trans rfl; have hff412_0 := blk_frozen BK412.out 0; have hff412_1 := blk_frozen BK412.out 1; have hff412_2 := blk_frozen BK412.out 2; have hff412_3 := blk_frozen BK412.out 3; have hff412_4 := blk_frozen BK412.out 4; have hff412_5 := blk_frozen BK412.out 5; have hff412_6 := blk_frozen BK412.out 6; have hff412_7 := blk_frozen BK412.out 7; have hff412_8 := blk_frozen BK412.out 8; have hff412_9 := blk_frozen BK412.out 9) | ((with_reducible refine gate_callee (f := 10) rfl ?_); refine goesL_ (some 16) rfl rfl Tryd.func10 (by kernel_rfl) rfl #[.agg #[.int .i64 t413, .int .i64 t414, .bool t415, .bool t416, .int .i64 t417, .int .i64 t418, .int .i64 t419, .int .u32 t420, .int .u32 t421, .string t422]] rfl (by (try simp only [List.map_toArray, List.map_cons, List.map_nil]); first | done | rfl | (simp only [List.length_drop, List.length_take]; rfl)) ?_; (with_reducible refine (inet_Build.calls k t413 t414 t415 t416 t417 t418 t419 t420 t421 t422 t423 t424 _ A4.out).mono ?_); rintro e w10 ⟨rfl, hb⟩; refine ⟨_, rfl, ?_⟩; have n0_ := Aside0.mk (blk_below (g := gb412) (o := .cells #[.int .i64 t413, .int .i64 t414, .bool t415, .bool t416, .int .i64 t417, .int .i64 t418, .int .i64 t419, .int .u32 t420, .int .u32 t421, .string t422] 24 (0, 0)) (by (with_reducible repeat (first | refine blk_drewN ?_ _ | refine blk_drew ?_ | refine blk_alloc ?_ _)); refine blk_put (cs := #[.int .i64 t413, .int .i64 t414, .bool t415, .bool t416, .int .i64 t417, .int .i64 t418, .int .i64 t419, .int .u32 t420, .int .u32 t421, .string a0_9]) ?_ 9 _ rfl; (with_reducible repeat (first | refine blk_drewN ?_ _ | refine blk_drew ?_ | refine blk_alloc ?_ _)); refine blk_put (cs := #[.int .i64 t413, .int .i64 t414, .bool t415, .bool t416, .int .i64 t417, .int .i64 t418, .int .i64 t419, .int .u32 t420, .int .u32 a0_8, .string a0_9]) ?_ 8 _ rfl; (with_reducible repeat (first | refine blk_drewN ?_ _ | refine blk_drew ?_ | refine blk_alloc ?_ _)); refine blk_put (cs := #[.int .i64 t413, .int .i64 t414, .bool t415, .bool t416, .int .i64 t417, .int .i64 t418, .int .i64 t419, .int .u32 a0_7, .int .u32 a0_8, .string a0_9]) ?_ 7 _ rfl; (with_reducible repeat (first | refine blk_drewN ?_ _ | refine blk_drew ?_ | refine blk_alloc ?_ _)); refine blk_put (cs := #[.int .i64 t413, .int .i64 t414, .bool t415, .bool t416, .int .i64 t417, .int .i64 t418, .int .i64 a0_6, .int .u32 a0_7, .int .u32 a0_8, .string a0_9]) ?_ 6 _ rfl; (with_reducible repeat (first | refine blk_drewN ?_ _ | refine blk_drew ?_ | refine blk_alloc ?_ _)); refine blk_put (cs := #[.int .i64 t413, .int .i64 t414, .bool t415, .bool t416, .int .i64 t417, .int .i64 a0_5, .int .i64 a0_6, .int .u32 a0_7, .int .u32 a0_8, .string a0_9]) ?_ 5 _ rfl; (with_reducible repeat (first | refine blk_drewN ?_ _ | refine blk_drew ?_ | refine blk_alloc ?_ _)); refine blk_put (cs := #[.int .i64 t413, .int .i64 t414, .bool t415, .bool t416, .int .i64 a0_4, .int .i64 a0_5, .int .i64 a0_6, .int .u32 a0_7, .int .u32 a0_8, .string a0_9]) ?_ 4 _ rfl; (with_reducible repeat (first | refine blk_drewN ?_ _ | refine blk_drew ?_ | refine blk_alloc ?_ _)); exact BK412.out) hb); have n1_ := Aside0.mk (below_step (by repeat (first | (with_reducible first | exact HB.out | apply below_alloc | apply pw_below_drewN | apply below_drew1 | refine below_set ?_ GE412.out) | exact HB.out)) hb); clear BK412; clear HB; have BK412 := n0_; have HB := n1_; clear n0_ n1_; have hcy2_412_0 := (show World.cell? _ ⟨gb412, 0, none⟩ = some (.int .i64 t413) from (blk_cell BK412.out 0).trans rfl); have hcy2_412_1 := (show World.cell? _ ⟨gb412, 1, none⟩ = some (.int .i64 t414) from (blk_cell BK412.out 1).trans rfl); have hcy2_412_2 := (show World.cell? _ ⟨gb412, 2, none⟩ = some (.bool t415) from (blk_cell BK412.out 2).trans rfl); have hcy2_412_3 := (show World.cell? _ ⟨gb412, 3, none⟩ = some (.bool t416) from (blk_cell BK412.out 3).trans rfl); have hcy2_412_4 := (show World.cell? _ ⟨gb412, 4, none⟩ = some (.int .i64 t417) from (blk_cell BK412.out 4).trans rfl); have hcy2_412_5 := (show World.cell? _ ⟨gb412, 5, none⟩ = some (.int .i64 t418) from (blk_cell BK412.out 5).trans rfl); have hcy2_412_6 := (show World.cell? _ ⟨gb412, 6, none⟩ = some (.int .i64 t419) from (blk_cell BK412.out 6).trans rfl); have hcy2_412_7 := (show World.cell? _ ⟨gb412, 7, none⟩ = some (.int .u32 t420) from (blk_cell BK412.out 7).trans rfl); have hcy2_412_8 := (show World.cell? _ ⟨gb412, 8, none⟩ = some (.int .u32 t421) from (blk_cell BK412.out 8).trans rfl); have hcy2_412_9 := (show World.cell? _ ⟨gb412, 9, none⟩ = some (.string t422) from (blk_cell BK412.out 9).trans rfl); (try clear hb); (try clear hb2); (try clear hk); (try clear hi)))
  go_loopg [5, 7] k (fun kq v5 v7 w' => ∃ (x5_1 : ByteArray) (x7_1 : Int) (x413005_1 : Int), v5 = .string x5_1 ∧ v7 = .int .i64 x7_1 ∧ Aside0 (gangwaylaw06_InetOlder.l0 kq a1 x5_1 x7_1 t413 t414 t415 t416 t417 x413005_1 t419 t420 t421 t422 = some r) ∧ Aside0 (kq ≤ k) ∧ Aside0 (w'.heap[gb412]? = some (.cells #[.int .i64 t413, .int .i64 t414, .bool t415, .bool t416, .int .i64 t417, .int .i64 x413005_1, .int .i64 t419, .int .u32 t420, .int .u32 t421, .string t422] 24 (0, 0))) ∧ Aside0 (Below w.heap.size w w'))
  case atStart => exact ⟨(t423), (0), (t418), (by first | rfl | (simp; done) | (simp [*]; done)), (by first | rfl | (simp; done) | (simp [*]; done)), H', ⟨Nat.le_refl _⟩, ⟨by (with_reducible repeat (first | refine blk_drewN ?_ _ | refine blk_drew ?_ | refine blk_alloc ?_ _)); exact BK412.out⟩, ⟨by repeat (first | (with_reducible first | exact HB.out | apply below_alloc | apply pw_below_drewN | apply below_drew1 | refine below_set ?_ GE412.out) | exact HB.out)⟩⟩
  case round =>
   clear H'
   try clear c1
   try clear p2
   try clear c5
   try clear c5b0
   try clear c5b1
   try clear c6
   try clear c9
   try clear c10
   try clear hcz7_0
   try clear hcz7_1
   try clear hcz7_2
   try clear hcz7_3
   try clear hcz7_4
   try clear hcz7_5
   try clear hcz7_6
   try clear hcz7_7
   try clear hcz7_8
   try clear hcz7_9
   try clear hcz9_0
   try clear hcz9_1
   try clear hcz9_2
   try clear hcz9_3
   try clear hcz9_4
   try clear hcz9_5
   try clear hcz9_6
   try clear hcz9_7
   try clear hcz9_8
   try clear hcz9_9
   try clear hfz7_0
   try clear hfz7_1
   try clear hfz7_2
   try clear hfz7_3
   try clear hfz7_4
   try clear hfz7_5
   try clear hfz7_6
   try clear hfz7_7
   try clear hfz7_8
   try clear hfz7_9
   try clear hfz9_0
   try clear hfz9_1
   try clear hfz9_2
   try clear hfz9_3
   try clear hfz9_4
   try clear hfz9_5
   try clear hfz9_6
   try clear hfz9_7
   try clear hfz9_8
   try clear hfz9_9
   obtain ⟨x5_1, x7_1, x413005_1, rfl, rfl, HA, HK1, BK412, HB⟩ := hrel
   cases gk with
   | zero => exact absurd HA.out (by simp [gangwaylaw06_InetOlder.l0])
   | succ k1 =>
    have H := HA.out
    clear HA
    simp only [gangwaylaw06_InetOlder.l0] at H
    have HC11 := Aside0.mk H
    clear H
    go_upto_region 6 with (fail)
    go_cut [29] (fun v29 wc => ∃ (kq : Nat) (x29_10 : Bool), v29 = .bool x29_10 ∧ Aside0 (gangwaylaw06_InetOlder.j1 kq a1 x5_1 x7_1 x29_10 t413 t414 t415 t416 t417 x413005_1 t419 t420 t421 t422 = some r) ∧ Aside0 (kq ≤ k1) ∧ Aside0 (wc.heap[gb412]? = some (.cells #[.int .i64 t413, .int .i64 t414, .bool t415, .bool t416, .int .i64 t417, .int .i64 x413005_1, .int .i64 t419, .int .u32 t420, .int .u32 t421, .string t422] 24 (0, 0))) ∧ Aside0 (Below w.heap.size w wc))
    case first =>
     have H := HC11.out
     clear HC11
     have H' := Aside0.mk H
     clear H
     go_wp2
     go_meet
     case rel => exact ⟨_, (decide (x7_1 < (Go.bits .and .i64 a1 31))), (by first | rfl | (simp; done) | (simp [*]; done)), H', ⟨by have := HK1.out; first | omega | exact Nat.le_refl _⟩, ⟨by (with_reducible repeat (first | refine blk_drewN ?_ _ | refine blk_drew ?_ | refine blk_alloc ?_ _)); exact BK412.out⟩, ⟨by repeat (first | (with_reducible first | exact HB.out | apply below_alloc | apply pw_below_drewN | apply below_drew1 | refine below_set ?_ GE412.out) | exact HB.out)⟩⟩
    case rest =>
     clear HC11
     try clear c1
     try clear p2
     try clear c5
     try clear c5b0
     try clear c5b1
     try clear c6
     try clear c9
     try clear c10
     try clear hcz7_0
     try clear hcz7_1
     try clear hcz7_2
     try clear hcz7_3
     try clear hcz7_4
     try clear hcz7_5
     try clear hcz7_6
     try clear hcz7_7
     try clear hcz7_8
     try clear hcz7_9
     try clear hcz9_0
     try clear hcz9_1
     try clear hcz9_2
     try clear hcz9_3
     try clear hcz9_4
     try clear hcz9_5
     try clear hcz9_6
     try clear hcz9_7
     try clear hcz9_8
     try clear hcz9_9
     try clear hfz7_0
     try clear hfz7_1
     try clear hfz7_2
     try clear hfz7_3
     try clear hfz7_4
     try clear hfz7_5
     try clear hfz7_6
     try clear hfz7_7
     try clear hfz7_8
     try clear hfz7_9
     try clear hfz9_0
     try clear hfz9_1
     try clear hfz9_2
     try clear hfz9_3
     try clear hfz9_4
     try clear hfz9_5
     try clear hfz9_6
     try clear hfz9_7
     try clear hfz9_8
     try clear hfz9_9
     try clear p2
     obtain ⟨kq, x29_10, rfl, HA, HJ10, BK412, HB⟩ := hcut
     cases kq with
     | zero => exact absurd HA.out (by simp [gangwaylaw06_InetOlder.j1])
     | succ kj10 =>
      have H := HA.out
      clear HA
      simp only [gangwaylaw06_InetOlder.j1] at H
      by_cases c12 : x29_10 = true
      ·subst c12
       have H1 : ((inet_Older.f kj10 x5_1).bind fun bt427 => (if x413005_1 = 0 then (if bt427.2 = 61 then (if bt427.1.toList = ([] : List UInt8) then ((gangwaylaw06_fixed.f kj10).bind fun t429 => (some t429)) else (none)) else (none)) else (gangwaylaw06_InetOlder.j2 kj10 a1 x5_1 x7_1 bt427.1 bt427.2 t413 t414 t415 t416 t417 (wrap64 (x413005_1 - 1)) t419 t420 t421 t422))) = some r := by rw [if_pos rfl] at H; exact H
       clear H
       have H := H1
       clear H1
       replace H := Option.bind_eq_some_iff.mp H
       obtain ⟨⟨t427, t428⟩, A130, H⟩ := H
       replace H : (if x413005_1 = 0 then (if t428 = 61 then (if t427.toList = ([] : List UInt8) then ((gangwaylaw06_fixed.f kj10).bind fun t429 => (some t429)) else (none)) else (none)) else (gangwaylaw06_InetOlder.j2 kj10 a1 x5_1 x7_1 t427 t428 t413 t414 t415 t416 t417 (wrap64 (x413005_1 - 1)) t419 t420 t421 t422)) = some r := H
       have A13 := Aside0.mk A130
       clear A130
       by_cases c14 : x413005_1 = 0
       ·rw [if_pos c14] at H
        have c14b0 : (x413005_1 == 0) = true := beq_iff_eq.mpr c14
        have c14b1 : (x413005_1 != 0) = false := bne_eq_false_iff_eq.mpr c14
        clear c14
        by_cases c15 : t428 = 61
        ·rw [if_pos c15] at H
         have c15b0 : (t428 == 61) = true := beq_iff_eq.mpr c15
         have c15b1 : (t428 != 61) = false := bne_eq_false_iff_eq.mpr c15
         clear c15
         by_cases c16 : t427.toList = ([] : List UInt8)
         ·rw [if_pos c16] at H
          have c16b0 : (t427.toList == ([] : List UInt8)) = true := beq_iff_eq.mpr c16
          have c16b1 : (t427.toList != ([] : List UInt8)) = false := bne_eq_false_iff_eq.mpr c16
          clear c16
          replace H := Option.bind_eq_some_iff.mp H
          obtain ⟨t429, A170, H⟩ := H
          replace H : (some t429) = some r := H
          have A17 := Aside0.mk A170
          clear A170
          obtain rfl := Option.some.inj H
          go_wp2_with (first | ((with_reducible refine gate_callee (f := 18) rfl ?_); refine goesL_ (some 34) rfl rfl Tryd.func18 (by kernel_rfl) rfl #[.string x5_1] rfl (by (try simp only [List.map_toArray, List.map_cons, List.map_nil]); first | done | rfl | (simp only [List.length_drop, List.length_take]; rfl)) ?_; (with_reducible refine (inet_Older.calls kj10 x5_1 t427 t428 _ ?sideL A13.out).mono ?_); (case sideL => exact laid_below HLD.out (by repeat (first | (with_reducible first | exact HB.out | apply below_alloc | apply pw_below_drewN | apply below_drew1 | refine below_set ?_ GE412.out) | exact HB.out))); rintro e w18 ⟨rfl, hb⟩; refine ⟨_, rfl, ?_⟩; have n0_ := Aside0.mk (blk_below (g := gb412) (o := .cells #[.int .i64 t413, .int .i64 t414, .bool t415, .bool t416, .int .i64 t417, .int .i64 x413005_1, .int .i64 t419, .int .u32 t420, .int .u32 t421, .string t422] 24 (0, 0)) (by (with_reducible repeat (first | refine blk_drewN ?_ _ | refine blk_drew ?_ | refine blk_alloc ?_ _)); exact BK412.out) hb); have n1_ := Aside0.mk (below_step (by repeat (first | (with_reducible first | exact HB.out | apply below_alloc | apply pw_below_drewN | apply below_drew1 | refine below_set ?_ GE412.out) | exact HB.out)) hb); clear BK412; clear HB; have BK412 := n0_; have HB := n1_; clear n0_ n1_; have hcy1_412_0 := (show World.cell? _ ⟨gb412, 0, none⟩ = some (.int .i64 t413) from (blk_cell BK412.out 0).trans rfl); have hcy1_412_1 := (show World.cell? _ ⟨gb412, 1, none⟩ = some (.int .i64 t414) from (blk_cell BK412.out 1).trans rfl); have hcy1_412_2 := (show World.cell? _ ⟨gb412, 2, none⟩ = some (.bool t415) from (blk_cell BK412.out 2).trans rfl); have hcy1_412_3 := (show World.cell? _ ⟨gb412, 3, none⟩ = some (.bool t416) from (blk_cell BK412.out 3).trans rfl); have hcy1_412_4 := (show World.cell? _ ⟨gb412, 4, none⟩ = some (.int .i64 t417) from (blk_cell BK412.out 4).trans rfl); have hcy1_412_5 := (show World.cell? _ ⟨gb412, 5, none⟩ = some (.int .i64 x413005_1) from (blk_cell BK412.out 5).trans rfl); have hcy1_412_6 := (show World.cell? _ ⟨gb412, 6, none⟩ = some (.int .i64 t419) from (blk_cell BK412.out 6).trans rfl); have hcy1_412_7 := (show World.cell? _ ⟨gb412, 7, none⟩ = some (.int .u32 t420) from (blk_cell BK412.out 7).trans rfl); have hcy1_412_8 := (show World.cell? _ ⟨gb412, 8, none⟩ = some (.int .u32 t421) from (blk_cell BK412.out 8).trans rfl); have hcy1_412_9 := (show World.cell? _ ⟨gb412, 9, none⟩ = some (.string t422) from (blk_cell BK412.out 9).trans rfl); (try clear hb); (try clear hb2); (try clear hk); (try clear hi); have hcz19_0 : w18.cell? ⟨gb412, 0, none⟩ = some (.int .i64 t413) := (blk_cell BK412.out 0).trans rfl; have hcz19_1 : w18.cell? ⟨gb412, 1, none⟩ = some (.int .i64 t414) := (blk_cell BK412.out 1).trans rfl; have hcz19_2 : w18.cell? ⟨gb412, 2, none⟩ = some (.bool t415) := (blk_cell BK412.out 2).trans rfl; have hcz19_3 : w18.cell? ⟨gb412, 3, none⟩ = some (.bool t416) := (blk_cell BK412.out 3).trans rfl; have hcz19_4 : w18.cell? ⟨gb412, 4, none⟩ = some (.int .i64 t417) := (blk_cell BK412.out 4).trans rfl; have hcz19_5 : w18.cell? ⟨gb412, 5, none⟩ = some (.int .i64 x413005_1) := (blk_cell BK412.out 5).trans rfl; have hcz19_6 : w18.cell? ⟨gb412, 6, none⟩ = some (.int .i64 t419) := (blk_cell BK412.out 6).trans rfl; have hcz19_7 : w18.cell? ⟨gb412, 7, none⟩ = some (.int .u32 t420) := (blk_cell BK412.out 7).trans rfl; have hcz19_8 : w18.cell? ⟨gb412, 8, none⟩ = some (.int .u32 t421) := (blk_cell BK412.out 8).trans rfl; have hcz19_9 : w18.cell? ⟨gb412, 9, none⟩ = some (.string t422) := (blk_cell BK412.out 9).trans rfl; have hfz19_0 := blk_frozen BK412.out 0; have hfz19_1 := blk_frozen BK412.out 1; have hfz19_2 := blk_frozen BK412.out 2; have hfz19_3 := blk_frozen BK412.out 3; have hfz19_4 := blk_frozen BK412.out 4; have hfz19_5 := blk_frozen BK412.out 5; have hfz19_6 := blk_frozen BK412.out 6; have hfz19_7 := blk_frozen BK412.out 7; have hfz19_8 := blk_frozen BK412.out 8; have hfz19_9 := blk_frozen BK412.out 9) | (go_at_call 12; (with_reducible refine (gangwaylaw06_fixed.calls kj10  t429 _ ?sideL A17.out).mono ?_); (case sideL => exact laid_below HLD.out (by repeat (first | (with_reducible first | exact HB.out | apply below_alloc | apply pw_below_drewN | apply below_drew1 | refine below_set ?_ GE412.out) | exact HB.out))); rintro e w20 ⟨rfl, hb⟩; have n0_ := Aside0.mk (blk_below (g := gb412) (o := .cells #[.int .i64 t413, .int .i64 t414, .bool t415, .bool t416, .int .i64 t417, .int .i64 x413005_1, .int .i64 t419, .int .u32 t420, .int .u32 t421, .string t422] 24 (0, 0)) (by (with_reducible repeat (first | refine blk_drewN ?_ _ | refine blk_drew ?_ | refine blk_alloc ?_ _)); exact BK412.out) hb); have n1_ := Aside0.mk (below_step (by repeat (first | (with_reducible first | exact HB.out | apply below_alloc | apply pw_below_drewN | apply below_drew1 | refine below_set ?_ GE412.out) | exact HB.out)) hb); clear BK412; clear HB; have BK412 := n0_; have HB := n1_; clear n0_ n1_; have hcy2_412_0 := (show World.cell? _ ⟨gb412, 0, none⟩ = some (.int .i64 t413) from (blk_cell BK412.out 0).trans rfl); have hcy2_412_1 := (show World.cell? _ ⟨gb412, 1, none⟩ = some (.int .i64 t414) from (blk_cell BK412.out 1).trans rfl); have hcy2_412_2 := (show World.cell? _ ⟨gb412, 2, none⟩ = some (.bool t415) from (blk_cell BK412.out 2).trans rfl); have hcy2_412_3 := (show World.cell? _ ⟨gb412, 3, none⟩ = some (.bool t416) from (blk_cell BK412.out 3).trans rfl); have hcy2_412_4 := (show World.cell? _ ⟨gb412, 4, none⟩ = some (.int .i64 t417) from (blk_cell BK412.out 4).trans rfl); have hcy2_412_5 := (show World.cell? _ ⟨gb412, 5, none⟩ = some (.int .i64 x413005_1) from (blk_cell BK412.out 5).trans rfl); have hcy2_412_6 := (show World.cell? _ ⟨gb412, 6, none⟩ = some (.int .i64 t419) from (blk_cell BK412.out 6).trans rfl); have hcy2_412_7 := (show World.cell? _ ⟨gb412, 7, none⟩ = some (.int .u32 t420) from (blk_cell BK412.out 7).trans rfl); have hcy2_412_8 := (show World.cell? _ ⟨gb412, 8, none⟩ = some (.int .u32 t421) from (blk_cell BK412.out 8).trans rfl); have hcy2_412_9 := (show World.cell? _ ⟨gb412, 9, none⟩ = some (.string t422) from (blk_cell BK412.out 9).trans rfl); (try clear hb); (try clear hb2); (try clear hk); (try clear hi)))
          go_ret
          exact ⟨by first | rfl | (simp [errW_none, errW_some] <;> rfl) | (simp [*, errW_none, errW_some] <;> rfl) | (simp [*, IntKind.wrap_u32]; done) | (simp_all [IntKind.wrap_u32]; done), by repeat (first | (with_reducible first | exact HB.out | apply below_alloc | apply pw_below_drewN | apply below_drew1 | refine below_set ?_ GE412.out) | exact HB.out)⟩
         ·rw [if_neg c16] at H
          exact absurd H (by simp)
        ·rw [if_neg c15] at H
         exact absurd H (by simp)
       ·rw [if_neg c14] at H
        have c14b0 : (x413005_1 == 0) = false := beq_eq_false_iff_ne.mpr c14
        have c14b1 : (x413005_1 != 0) = true := bne_iff_ne.mpr c14
        have HC21 := Aside0.mk H
        clear H
        go_upto_region 11 with (first | ((with_reducible refine gate_callee (f := 18) rfl ?_); refine goesL_ (some 34) rfl rfl Tryd.func18 (by kernel_rfl) rfl #[.string x5_1] rfl (by (try simp only [List.map_toArray, List.map_cons, List.map_nil]); first | done | rfl | (simp only [List.length_drop, List.length_take]; rfl)) ?_; (with_reducible refine (inet_Older.calls kj10 x5_1 t427 t428 _ ?sideL A13.out).mono ?_); (case sideL => exact laid_below HLD.out (by repeat (first | (with_reducible first | exact HB.out | apply below_alloc | apply pw_below_drewN | apply below_drew1 | refine below_set ?_ GE412.out) | exact HB.out))); rintro e w22 ⟨rfl, hb⟩; refine ⟨_, rfl, ?_⟩; have n0_ := Aside0.mk (blk_below (g := gb412) (o := .cells #[.int .i64 t413, .int .i64 t414, .bool t415, .bool t416, .int .i64 t417, .int .i64 x413005_1, .int .i64 t419, .int .u32 t420, .int .u32 t421, .string t422] 24 (0, 0)) (by (with_reducible repeat (first | refine blk_drewN ?_ _ | refine blk_drew ?_ | refine blk_alloc ?_ _)); exact BK412.out) hb); have n1_ := Aside0.mk (below_step (by repeat (first | (with_reducible first | exact HB.out | apply below_alloc | apply pw_below_drewN | apply below_drew1 | refine below_set ?_ GE412.out) | exact HB.out)) hb); clear BK412; clear HB; have BK412 := n0_; have HB := n1_; clear n0_ n1_; (try clear hb); (try clear hb2); (try clear hk); (try clear hi); have hcz23_0 : w22.cell? ⟨gb412, 0, none⟩ = some (.int .i64 t413) := (blk_cell BK412.out 0).trans rfl; have hcz23_1 : w22.cell? ⟨gb412, 1, none⟩ = some (.int .i64 t414) := (blk_cell BK412.out 1).trans rfl; have hcz23_2 : w22.cell? ⟨gb412, 2, none⟩ = some (.bool t415) := (blk_cell BK412.out 2).trans rfl; have hcz23_3 : w22.cell? ⟨gb412, 3, none⟩ = some (.bool t416) := (blk_cell BK412.out 3).trans rfl; have hcz23_4 : w22.cell? ⟨gb412, 4, none⟩ = some (.int .i64 t417) := (blk_cell BK412.out 4).trans rfl; have hcz23_5 : w22.cell? ⟨gb412, 5, none⟩ = some (.int .i64 x413005_1) := (blk_cell BK412.out 5).trans rfl; have hcz23_6 : w22.cell? ⟨gb412, 6, none⟩ = some (.int .i64 t419) := (blk_cell BK412.out 6).trans rfl; have hcz23_7 : w22.cell? ⟨gb412, 7, none⟩ = some (.int .u32 t420) := (blk_cell BK412.out 7).trans rfl; have hcz23_8 : w22.cell? ⟨gb412, 8, none⟩ = some (.int .u32 t421) := (blk_cell BK412.out 8).trans rfl; have hcz23_9 : w22.cell? ⟨gb412, 9, none⟩ = some (.string t422) := (blk_cell BK412.out 9).trans rfl; have hfz23_0 := blk_frozen BK412.out 0; have hfz23_1 := blk_frozen BK412.out 1; have hfz23_2 := blk_frozen BK412.out 2; have hfz23_3 := blk_frozen BK412.out 3; have hfz23_4 := blk_frozen BK412.out 4; have hfz23_5 := blk_frozen BK412.out 5; have hfz23_6 := blk_frozen BK412.out 6; have hfz23_7 := blk_frozen BK412.out 7; have hfz23_8 := blk_frozen BK412.out 8; have hfz23_9 := blk_frozen BK412.out 9))
        (try simp only [Act.put, List.setIfInBounds_toArray, List.set_cons_zero, List.set_cons_succ])
        go_cut [] (fun wc => ∃ (kq : Nat) (x413005_20 : Int), Aside0 (gangwaylaw06_InetOlder.j2 kq a1 x5_1 x7_1 t427 t428 t413 t414 t415 t416 t417 x413005_20 t419 t420 t421 t422 = some r) ∧ Aside0 (kq ≤ kj10) ∧ Aside0 (wc.heap[gb412]? = some (.cells #[.int .i64 t413, .int .i64 t414, .bool t415, .bool t416, .int .i64 t417, .int .i64 x413005_20, .int .i64 t419, .int .u32 t420, .int .u32 t421, .string t422] 24 (0, 0))) ∧ Aside0 (Below w.heap.size w wc))
        case first =>
         have H := HC21.out
         clear HC21
         have H' := Aside0.mk H
         clear H
         have hcz24_0 : w22.cell? ⟨gb412, 0, none⟩ = some (.int .i64 t413) := (blk_cell BK412.out 0).trans rfl
         have hcz24_1 : w22.cell? ⟨gb412, 1, none⟩ = some (.int .i64 t414) := (blk_cell BK412.out 1).trans rfl
         have hcz24_2 : w22.cell? ⟨gb412, 2, none⟩ = some (.bool t415) := (blk_cell BK412.out 2).trans rfl
         have hcz24_3 : w22.cell? ⟨gb412, 3, none⟩ = some (.bool t416) := (blk_cell BK412.out 3).trans rfl
         have hcz24_4 : w22.cell? ⟨gb412, 4, none⟩ = some (.int .i64 t417) := (blk_cell BK412.out 4).trans rfl
         have hcz24_5 : w22.cell? ⟨gb412, 5, none⟩ = some (.int .i64 x413005_1) := (blk_cell BK412.out 5).trans rfl
         have hcz24_6 : w22.cell? ⟨gb412, 6, none⟩ = some (.int .i64 t419) := (blk_cell BK412.out 6).trans rfl
         have hcz24_7 : w22.cell? ⟨gb412, 7, none⟩ = some (.int .u32 t420) := (blk_cell BK412.out 7).trans rfl
         have hcz24_8 : w22.cell? ⟨gb412, 8, none⟩ = some (.int .u32 t421) := (blk_cell BK412.out 8).trans rfl
         have hcz24_9 : w22.cell? ⟨gb412, 9, none⟩ = some (.string t422) := (blk_cell BK412.out 9).trans rfl
         have hfz24_0 := blk_frozen BK412.out 0
         have hfz24_1 := blk_frozen BK412.out 1
         have hfz24_2 := blk_frozen BK412.out 2
         have hfz24_3 := blk_frozen BK412.out 3
         have hfz24_4 := blk_frozen BK412.out 4
         have hfz24_5 := blk_frozen BK412.out 5
         have hfz24_6 := blk_frozen BK412.out 6
         have hfz24_7 := blk_frozen BK412.out 7
         have hfz24_8 := blk_frozen BK412.out 8
         have hfz24_9 := blk_frozen BK412.out 9
         go_wp2
         go_meet
         case rel => exact ⟨_, (wrap64 (x413005_1 - 1)), H', ⟨by have := HK1.out; have := HJ10.out; first | omega | exact Nat.le_refl _⟩, ⟨by (with_reducible repeat (first | refine blk_drewN ?_ _ | refine blk_drew ?_ | refine blk_alloc ?_ _)); refine blk_put (cs := #[.int .i64 t413, .int .i64 t414, .bool t415, .bool t416, .int .i64 t417, .int .i64 x413005_1, .int .i64 t419, .int .u32 t420, .int .u32 t421, .string t422]) ?_ 5 _ rfl; (with_reducible repeat (first | refine blk_drewN ?_ _ | refine blk_drew ?_ | refine blk_alloc ?_ _)); exact BK412.out⟩, ⟨by repeat (first | (with_reducible first | exact HB.out | apply below_alloc | apply pw_below_drewN | apply below_drew1 | refine below_set ?_ GE412.out) | exact HB.out)⟩⟩
        case rest =>
         clear HC21
         try clear c1
         try clear p2
         try clear c5
         try clear c5b0
         try clear c5b1
         try clear c6
         try clear p6
         try clear c9
         try clear c10
         try clear c12
         try clear c14
         try clear c14b0
         try clear c14b1
         try clear c15
         try clear c15b0
         try clear c15b1
         try clear c16
         try clear c16b0
         try clear c16b1
         try clear c18
         try clear hcz19_0
         try clear hcz19_1
         try clear hcz19_2
         try clear hcz19_3
         try clear hcz19_4
         try clear hcz19_5
         try clear hcz19_6
         try clear hcz19_7
         try clear hcz19_8
         try clear hcz19_9
         try clear hcz23_0
         try clear hcz23_1
         try clear hcz23_2
         try clear hcz23_3
         try clear hcz23_4
         try clear hcz23_5
         try clear hcz23_6
         try clear hcz23_7
         try clear hcz23_8
         try clear hcz23_9
         try clear hcz24_0
         try clear hcz24_1
         try clear hcz24_2
         try clear hcz24_3
         try clear hcz24_4
         try clear hcz24_5
         try clear hcz24_6
         try clear hcz24_7
         try clear hcz24_8
         try clear hcz24_9
         try clear hcz7_0
         try clear hcz7_1
         try clear hcz7_2
         try clear hcz7_3
         try clear hcz7_4
         try clear hcz7_5
         try clear hcz7_6
         try clear hcz7_7
         try clear hcz7_8
         try clear hcz7_9
         try clear hcz9_0
         try clear hcz9_1
         try clear hcz9_2
         try clear hcz9_3
         try clear hcz9_4
         try clear hcz9_5
         try clear hcz9_6
         try clear hcz9_7
         try clear hcz9_8
         try clear hcz9_9
         try clear hfz19_0
         try clear hfz19_1
         try clear hfz19_2
         try clear hfz19_3
         try clear hfz19_4
         try clear hfz19_5
         try clear hfz19_6
         try clear hfz19_7
         try clear hfz19_8
         try clear hfz19_9
         try clear hfz23_0
         try clear hfz23_1
         try clear hfz23_2
         try clear hfz23_3
         try clear hfz23_4
         try clear hfz23_5
         try clear hfz23_6
         try clear hfz23_7
         try clear hfz23_8
         try clear hfz23_9
         try clear hfz24_0
         try clear hfz24_1
         try clear hfz24_2
         try clear hfz24_3
         try clear hfz24_4
         try clear hfz24_5
         try clear hfz24_6
         try clear hfz24_7
         try clear hfz24_8
         try clear hfz24_9
         try clear hfz7_0
         try clear hfz7_1
         try clear hfz7_2
         try clear hfz7_3
         try clear hfz7_4
         try clear hfz7_5
         try clear hfz7_6
         try clear hfz7_7
         try clear hfz7_8
         try clear hfz7_9
         try clear hfz9_0
         try clear hfz9_1
         try clear hfz9_2
         try clear hfz9_3
         try clear hfz9_4
         try clear hfz9_5
         try clear hfz9_6
         try clear hfz9_7
         try clear hfz9_8
         try clear hfz9_9
         try clear p2
         obtain ⟨kq, x413005_20, HA, HJ20, BK412, HB⟩ := hcut
         cases kq with
         | zero => exact absurd HA.out (by simp [gangwaylaw06_InetOlder.j2])
         | succ kj20 =>
          have H := HA.out
          clear HA
          simp only [gangwaylaw06_InetOlder.j2] at H
          replace H := Option.bind_eq_some_iff.mp H
          obtain ⟨⟨t430, t431, t432, t433, t434, t435, t436, t437, t438, t439, t440⟩, A250, H⟩ := H
          replace H : (if t428 = 0 then (if t440 = 0 then (if (!(t430 == t413) || (!(t431 == t414) || (!(t432 == t415) || (!(t433 == t416) || (!(t434 == t417) || (!(t435 == x413005_20) || (!(t436 == t419) || (!(t437 == t420) || (!(t438 == t421) || (!(t439.toList == t422.toList))))))))))) = true then (none) else (if (t427.size : Int) = (x5_1.size : Int) then (gangwaylaw06_InetOlder.l0 kj20 a1 t427 (wrap64 (x7_1 + 1)) t413 t414 t415 t416 t417 x413005_20 t419 t420 t421 t422) else (none))) else (none)) else (none)) = some r := H
          have A25 := Aside0.mk A250
          clear A250
          by_cases c26 : t428 = 0
          ·rw [if_pos c26] at H
           have c26b0 : (t428 == 0) = true := beq_iff_eq.mpr c26
           have c26b1 : (t428 != 0) = false := bne_eq_false_iff_eq.mpr c26
           clear c26
           by_cases c27 : t440 = 0
           ·rw [if_pos c27] at H
            have c27b0 : (t440 == 0) = true := beq_iff_eq.mpr c27
            have c27b1 : (t440 != 0) = false := bne_eq_false_iff_eq.mpr c27
            clear c27
            by_cases c28 : (!(t430 == t413) || (!(t431 == t414) || (!(t432 == t415) || (!(t433 == t416) || (!(t434 == t417) || (!(t435 == x413005_20) || (!(t436 == t419) || (!(t437 == t420) || (!(t438 == t421) || (!(t439.toList == t422.toList))))))))))) = true
            ·rw [if_pos c28] at H
             exact absurd H (by simp)
            ·rw [if_neg c28] at H
             have c28b0 : (!(t430 == t413) || (!(t431 == t414) || (!(t432 == t415) || (!(t433 == t416) || (!(t434 == t417) || (!(t435 == x413005_20) || (!(t436 == t419) || (!(t437 == t420) || (!(t438 == t421) || (!(t439.toList == t422.toList))))))))))) = false := by simpa using c28
             clear c28
             by_cases c29 : (t427.size : Int) = (x5_1.size : Int)
             ·rw [if_pos c29] at H
              have c29b0 : ((t427.size : Int) == (x5_1.size : Int)) = true := beq_iff_eq.mpr c29
              have c29b1 : ((t427.size : Int) != (x5_1.size : Int)) = false := bne_eq_false_iff_eq.mpr c29
              have c29b2 : (t427.size == x5_1.size) = true := by first | simpa using c29 | (simp at c29 ⊢; omega)
              clear c29
              have H' := Aside0.mk H
              clear H
              go_wp2_with (first | ((with_reducible refine gate_callee (f := 16) rfl ?_); refine goesL_ (some 55) rfl rfl Tryd.func16 (by kernel_rfl) rfl #[.string t427] rfl (by (try simp only [List.map_toArray, List.map_cons, List.map_nil]); first | done | rfl | (simp only [List.length_drop, List.length_take]; rfl)) ?_; (with_reducible refine (inet_Parse.calls kj20 t427 t430 t431 t432 t433 t434 t435 t436 t437 t438 t439 t440 _ ?sideL A25.out).mono ?_); (case sideL => exact laid_below HLD.out (by repeat (first | (with_reducible first | exact HB.out | apply below_alloc | apply pw_below_drewN | apply below_drew1 | refine below_set ?_ GE412.out) | exact HB.out))); rintro e w30 ⟨rfl, hb⟩; refine ⟨_, rfl, ?_⟩; have n0_ := Aside0.mk (blk_below (g := gb412) (o := .cells #[.int .i64 t413, .int .i64 t414, .bool t415, .bool t416, .int .i64 t417, .int .i64 x413005_20, .int .i64 t419, .int .u32 t420, .int .u32 t421, .string t422] 24 (0, 0)) (by (with_reducible repeat (first | refine blk_drewN ?_ _ | refine blk_drew ?_ | refine blk_alloc ?_ _)); exact BK412.out) hb); have n1_ := Aside0.mk (below_step (by repeat (first | (with_reducible first | exact HB.out | apply below_alloc | apply pw_below_drewN | apply below_drew1 | refine below_set ?_ GE412.out) | exact HB.out)) hb); clear BK412; clear HB; have BK412 := n0_; have HB := n1_; clear n0_ n1_; have hcy1_412_0 := (show World.cell? _ ⟨gb412, 0, none⟩ = some (.int .i64 t413) from (blk_cell BK412.out 0).trans rfl); have hcy1_412_1 := (show World.cell? _ ⟨gb412, 1, none⟩ = some (.int .i64 t414) from (blk_cell BK412.out 1).trans rfl); have hcy1_412_2 := (show World.cell? _ ⟨gb412, 2, none⟩ = some (.bool t415) from (blk_cell BK412.out 2).trans rfl); have hcy1_412_3 := (show World.cell? _ ⟨gb412, 3, none⟩ = some (.bool t416) from (blk_cell BK412.out 3).trans rfl); have hcy1_412_4 := (show World.cell? _ ⟨gb412, 4, none⟩ = some (.int .i64 t417) from (blk_cell BK412.out 4).trans rfl); have hcy1_412_5 := (show World.cell? _ ⟨gb412, 5, none⟩ = some (.int .i64 x413005_20) from (blk_cell BK412.out 5).trans rfl); have hcy1_412_6 := (show World.cell? _ ⟨gb412, 6, none⟩ = some (.int .i64 t419) from (blk_cell BK412.out 6).trans rfl); have hcy1_412_7 := (show World.cell? _ ⟨gb412, 7, none⟩ = some (.int .u32 t420) from (blk_cell BK412.out 7).trans rfl); have hcy1_412_8 := (show World.cell? _ ⟨gb412, 8, none⟩ = some (.int .u32 t421) from (blk_cell BK412.out 8).trans rfl); have hcy1_412_9 := (show World.cell? _ ⟨gb412, 9, none⟩ = some (.string t422) from (blk_cell BK412.out 9).trans rfl); (try clear hb); (try clear hb2); (try clear hk); (try clear hi)) | ((with_reducible refine gate_dst (N := 10) rfl ?_); (try (refine gate_guard (by rfl) ?_; dsimp only)); refine box_event ?hg (N := 10) ?hd (cs := #[.int .i64 0, .int .i64 0, .bool false, .bool false, .int .i64 0, .int .i64 0, .int .i64 0, .int .u32 0, .int .u32 0, .string (⟨#[]⟩ : ByteArray)]) (t := 24) ?hr ?_; (case hd => rfl); (case hg => rfl); (case hr => first | (go_simp; done) | (go_simp; rfl)); intro gb441 hg w31 hbox hb; have n0_ := Aside0.mk (blk_below (g := gb412) (o := .cells #[.int .i64 t413, .int .i64 t414, .bool t415, .bool t416, .int .i64 t417, .int .i64 x413005_20, .int .i64 t419, .int .u32 t420, .int .u32 t421, .string t422] 24 (0, 0)) (by (with_reducible repeat (first | refine blk_drewN ?_ _ | refine blk_drew ?_ | refine blk_alloc ?_ _)); exact BK412.out) hb); have n1_ := Aside0.mk (below_step (by repeat (first | (with_reducible first | exact HB.out | apply below_alloc | apply pw_below_drewN | apply below_drew1 | refine below_set ?_ GE412.out) | exact HB.out)) hb); have n2_ := Aside0.mk (hbox); have n3_ := Aside0.mk ((by rw [hg]; exact (below_size (by repeat (first | (with_reducible first | exact HB.out | apply below_alloc | apply pw_below_drewN | apply below_drew1 | refine below_set ?_ GE412.out) | exact HB.out))) : w.heap.size ≤ gb441)); have n4_ := Aside0.mk ((by rw [hg]; exact (below_size (by repeat (first | (with_reducible first | exact HB.out | apply below_alloc | apply pw_below_drewN | apply below_drew1 | refine below_set ?_ GE412.out) | exact HB.out))) : w.heap.size ≤ gb441)); have n5_ := Aside0.mk ((by rw [hg]; exact Nat.ne_of_lt (blk_lt (g := gb412) (o := .cells #[.int .i64 t413, .int .i64 t414, .bool t415, .bool t416, .int .i64 t417, .int .i64 x413005_20, .int .i64 t419, .int .u32 t420, .int .u32 t421, .string t422] 24 (0, 0)) (by (with_reducible repeat (first | refine blk_drewN ?_ _ | refine blk_drew ?_ | refine blk_alloc ?_ _)); exact BK412.out)) : gb412 ≠ gb441)); have n6_ := Aside0.mk ((by rw [hg]; exact Nat.ne_of_gt (blk_lt (g := gb412) (o := .cells #[.int .i64 t413, .int .i64 t414, .bool t415, .bool t416, .int .i64 t417, .int .i64 x413005_20, .int .i64 t419, .int .u32 t420, .int .u32 t421, .string t422] 24 (0, 0)) (by (with_reducible repeat (first | refine blk_drewN ?_ _ | refine blk_drew ?_ | refine blk_alloc ?_ _)); exact BK412.out)) : gb441 ≠ gb412)); clear BK412; clear HB; have BK412 := n0_; have HB := n1_; have BK441 := n2_; have GW441 := n3_; have GE441 := n4_; have NB412_441 := n5_; have NB441_412 := n6_; clear n0_ n1_ n2_ n3_ n4_ n5_ n6_; have hcy2_412_0 := (show World.cell? _ ⟨gb412, 0, none⟩ = some (.int .i64 t413) from (blk_cell BK412.out 0).trans rfl); have hcy2_412_1 := (show World.cell? _ ⟨gb412, 1, none⟩ = some (.int .i64 t414) from (blk_cell BK412.out 1).trans rfl); have hcy2_412_2 := (show World.cell? _ ⟨gb412, 2, none⟩ = some (.bool t415) from (blk_cell BK412.out 2).trans rfl); have hcy2_412_3 := (show World.cell? _ ⟨gb412, 3, none⟩ = some (.bool t416) from (blk_cell BK412.out 3).trans rfl); have hcy2_412_4 := (show World.cell? _ ⟨gb412, 4, none⟩ = some (.int .i64 t417) from (blk_cell BK412.out 4).trans rfl); have hcy2_412_5 := (show World.cell? _ ⟨gb412, 5, none⟩ = some (.int .i64 x413005_20) from (blk_cell BK412.out 5).trans rfl); have hcy2_412_6 := (show World.cell? _ ⟨gb412, 6, none⟩ = some (.int .i64 t419) from (blk_cell BK412.out 6).trans rfl); have hcy2_412_7 := (show World.cell? _ ⟨gb412, 7, none⟩ = some (.int .u32 t420) from (blk_cell BK412.out 7).trans rfl); have hcy2_412_8 := (show World.cell? _ ⟨gb412, 8, none⟩ = some (.int .u32 t421) from (blk_cell BK412.out 8).trans rfl); have hcy2_412_9 := (show World.cell? _ ⟨gb412, 9, none⟩ = some (.string t422) from (blk_cell BK412.out 9).trans rfl); clear hb hbox hg; have hnb32 := NB441_412.out; have hnc32 := NB412_441.out; have hcz33_0 : w31.cell? ⟨gb441, 0, none⟩ = some (.int .i64 0) := (blk_cell BK441.out 0).trans rfl; have hcz33_1 : w31.cell? ⟨gb441, 1, none⟩ = some (.int .i64 0) := (blk_cell BK441.out 1).trans rfl; have hcz33_2 : w31.cell? ⟨gb441, 2, none⟩ = some (.bool false) := (blk_cell BK441.out 2).trans rfl; have hcz33_3 : w31.cell? ⟨gb441, 3, none⟩ = some (.bool false) := (blk_cell BK441.out 3).trans rfl; have hcz33_4 : w31.cell? ⟨gb441, 4, none⟩ = some (.int .i64 0) := (blk_cell BK441.out 4).trans rfl; have hcz33_5 : w31.cell? ⟨gb441, 5, none⟩ = some (.int .i64 0) := (blk_cell BK441.out 5).trans rfl; have hcz33_6 : w31.cell? ⟨gb441, 6, none⟩ = some (.int .i64 0) := (blk_cell BK441.out 6).trans rfl; have hcz33_7 : w31.cell? ⟨gb441, 7, none⟩ = some (.int .u32 0) := (blk_cell BK441.out 7).trans rfl; have hcz33_8 : w31.cell? ⟨gb441, 8, none⟩ = some (.int .u32 0) := (blk_cell BK441.out 8).trans rfl; have hcz33_9 : w31.cell? ⟨gb441, 9, none⟩ = some (.string (⟨#[]⟩ : ByteArray)) := (blk_cell BK441.out 9).trans rfl; have hfz33_0 := blk_frozen BK441.out 0; have hfz33_1 := blk_frozen BK441.out 1; have hfz33_2 := blk_frozen BK441.out 2; have hfz33_3 := blk_frozen BK441.out 3; have hfz33_4 := blk_frozen BK441.out 4; have hfz33_5 := blk_frozen BK441.out 5; have hfz33_6 := blk_frozen BK441.out 6; have hfz33_7 := blk_frozen BK441.out 7; have hfz33_8 := blk_frozen BK441.out 8; have hfz33_9 := blk_frozen BK441.out 9; have hcz34_0 : w31.cell? ⟨gb412, 0, none⟩ = some (.int .i64 t413) := (blk_cell BK412.out 0).trans rfl; have hcz34_1 : w31.cell? ⟨gb412, 1, none⟩ = some (.int .i64 t414) := (blk_cell BK412.out 1).trans rfl; have hcz34_2 : w31.cell? ⟨gb412, 2, none⟩ = some (.bool t415) := (blk_cell BK412.out 2).trans rfl; have hcz34_3 : w31.cell? ⟨gb412, 3, none⟩ = some (.bool t416) := (blk_cell BK412.out 3).trans rfl; have hcz34_4 : w31.cell? ⟨gb412, 4, none⟩ = some (.int .i64 t417) := (blk_cell BK412.out 4).trans rfl; have hcz34_5 : w31.cell? ⟨gb412, 5, none⟩ = some (.int .i64 x413005_20) := (blk_cell BK412.out 5).trans rfl; have hcz34_6 : w31.cell? ⟨gb412, 6, none⟩ = some (.int .i64 t419) := (blk_cell BK412.out 6).trans rfl; have hcz34_7 : w31.cell? ⟨gb412, 7, none⟩ = some (.int .u32 t420) := (blk_cell BK412.out 7).trans rfl; have hcz34_8 : w31.cell? ⟨gb412, 8, none⟩ = some (.int .u32 t421) := (blk_cell BK412.out 8).trans rfl; have hcz34_9 : w31.cell? ⟨gb412, 9, none⟩ = some (.string t422) := (blk_cell BK412.out 9).trans rfl; have hfz34_0 := blk_frozen BK412.out 0; have hfz34_1 := blk_frozen BK412.out 1; have hfz34_2 := blk_frozen BK412.out 2; have hfz34_3 := blk_frozen BK412.out 3; have hfz34_4 := blk_frozen BK412.out 4; have hfz34_5 := blk_frozen BK412.out 5; have hfz34_6 := blk_frozen BK412.out 6; have hfz34_7 := blk_frozen BK412.out 7; have hfz34_8 := blk_frozen BK412.out 8; have hfz34_9 := blk_frozen BK412.out 9))
              go_roundg kj20
              case measure => have := HK1.out; have := HJ10.out; have := HJ20.out; omega
              case rel => exact ⟨(t427), (wrap64 (x7_1 + 1)), (x413005_20), (by first | rfl | (simp; done) | (simp [*]; done)), (by first | rfl | (simp; done) | (simp [*]; done)), H', ⟨by have := HK1.out; have := HJ10.out; have := HJ20.out; omega⟩, ⟨by (with_reducible repeat (first | refine blk_drewN ?_ _ | refine blk_drew ?_ | refine blk_alloc ?_ _)); refine blk_far ?_ NB412_441.out _; (with_reducible repeat (first | refine blk_drewN ?_ _ | refine blk_drew ?_ | refine blk_alloc ?_ _)); refine blk_far ?_ NB412_441.out _; (with_reducible repeat (first | refine blk_drewN ?_ _ | refine blk_drew ?_ | refine blk_alloc ?_ _)); refine blk_far ?_ NB412_441.out _; (with_reducible repeat (first | refine blk_drewN ?_ _ | refine blk_drew ?_ | refine blk_alloc ?_ _)); refine blk_far ?_ NB412_441.out _; (with_reducible repeat (first | refine blk_drewN ?_ _ | refine blk_drew ?_ | refine blk_alloc ?_ _)); refine blk_far ?_ NB412_441.out _; (with_reducible repeat (first | refine blk_drewN ?_ _ | refine blk_drew ?_ | refine blk_alloc ?_ _)); refine blk_far ?_ NB412_441.out _; (with_reducible repeat (first | refine blk_drewN ?_ _ | refine blk_drew ?_ | refine blk_alloc ?_ _)); refine blk_far ?_ NB412_441.out _; (with_reducible repeat (first | refine blk_drewN ?_ _ | refine blk_drew ?_ | refine blk_alloc ?_ _)); refine blk_far ?_ NB412_441.out _; (with_reducible repeat (first | refine blk_drewN ?_ _ | refine blk_drew ?_ | refine blk_alloc ?_ _)); refine blk_far ?_ NB412_441.out _; (with_reducible repeat (first | refine blk_drewN ?_ _ | refine blk_drew ?_ | refine blk_alloc ?_ _)); refine blk_far ?_ NB412_441.out _; (with_reducible repeat (first | refine blk_drewN ?_ _ | refine blk_drew ?_ | refine blk_alloc ?_ _)); exact BK412.out⟩, ⟨by repeat (first | (with_reducible first | exact HB.out | apply below_alloc | apply pw_below_drewN | apply below_drew1 | refine below_set ?_ GE412.out | refine below_set ?_ GE441.out) | exact HB.out)⟩⟩
             ·rw [if_neg c29] at H
              exact absurd H (by simp)
           ·rw [if_neg c27] at H
            exact absurd H (by simp)
          ·rw [if_neg c26] at H
           exact absurd H (by simp)
      ·replace c12 := Bool.eq_false_iff.mpr c12
       subst c12
       have H1 : ((gangwaylaw06_fixed.f kj10).bind fun t426 => (some t426)) = some r := by rw [if_neg (show ¬ (false = true) by decide)] at H; exact H
       clear H
       have H := H1
       clear H1
       replace H := Option.bind_eq_some_iff.mp H
       obtain ⟨t426, A350, H⟩ := H
       replace H : (some t426) = some r := H
       have A35 := Aside0.mk A350
       clear A350
       obtain rfl := Option.some.inj H
       go_wp2_with (first | ((with_reducible refine gate_callee (f := 12) rfl ?_); refine goesL_ (some 77) rfl rfl Tryd.func12 (by kernel_rfl) rfl #[] rfl (by (try simp only [List.map_toArray, List.map_cons, List.map_nil]); first | done | rfl | (simp only [List.length_drop, List.length_take]; rfl)) ?_; (with_reducible refine (gangwaylaw06_fixed.calls kj10  t426 _ ?sideL A35.out).mono ?_); (case sideL => exact laid_below HLD.out (by repeat (first | (with_reducible first | exact HB.out | apply below_alloc | apply pw_below_drewN | apply below_drew1 | refine below_set ?_ GE412.out) | exact HB.out))); rintro e w36 ⟨rfl, hb⟩; refine ⟨_, rfl, ?_⟩; have n0_ := Aside0.mk (blk_below (g := gb412) (o := .cells #[.int .i64 t413, .int .i64 t414, .bool t415, .bool t416, .int .i64 t417, .int .i64 x413005_1, .int .i64 t419, .int .u32 t420, .int .u32 t421, .string t422] 24 (0, 0)) (by (with_reducible repeat (first | refine blk_drewN ?_ _ | refine blk_drew ?_ | refine blk_alloc ?_ _)); exact BK412.out) hb); have n1_ := Aside0.mk (below_step (by repeat (first | (with_reducible first | exact HB.out | apply below_alloc | apply pw_below_drewN | apply below_drew1 | refine below_set ?_ GE412.out) | exact HB.out)) hb); clear BK412; clear HB; have BK412 := n0_; have HB := n1_; clear n0_ n1_; have hcy1_412_0 := (show World.cell? _ ⟨gb412, 0, none⟩ = some (.int .i64 t413) from (blk_cell BK412.out 0).trans rfl); have hcy1_412_1 := (show World.cell? _ ⟨gb412, 1, none⟩ = some (.int .i64 t414) from (blk_cell BK412.out 1).trans rfl); have hcy1_412_2 := (show World.cell? _ ⟨gb412, 2, none⟩ = some (.bool t415) from (blk_cell BK412.out 2).trans rfl); have hcy1_412_3 := (show World.cell? _ ⟨gb412, 3, none⟩ = some (.bool t416) from (blk_cell BK412.out 3).trans rfl); have hcy1_412_4 := (show World.cell? _ ⟨gb412, 4, none⟩ = some (.int .i64 t417) from (blk_cell BK412.out 4).trans rfl); have hcy1_412_5 := (show World.cell? _ ⟨gb412, 5, none⟩ = some (.int .i64 x413005_1) from (blk_cell BK412.out 5).trans rfl); have hcy1_412_6 := (show World.cell? _ ⟨gb412, 6, none⟩ = some (.int .i64 t419) from (blk_cell BK412.out 6).trans rfl); have hcy1_412_7 := (show World.cell? _ ⟨gb412, 7, none⟩ = some (.int .u32 t420) from (blk_cell BK412.out 7).trans rfl); have hcy1_412_8 := (show World.cell? _ ⟨gb412, 8, none⟩ = some (.int .u32 t421) from (blk_cell BK412.out 8).trans rfl); have hcy1_412_9 := (show World.cell? _ ⟨gb412, 9, none⟩ = some (.string t422) from (blk_cell BK412.out 9).trans rfl); (try clear hb); (try clear hb2); (try clear hk); (try clear hi)))
       go_ret
       exact ⟨by first | rfl | (simp [errW_none, errW_some] <;> rfl) | (simp [*, errW_none, errW_some] <;> rfl) | (simp [*, IntKind.wrap_u32]; done) | (simp_all [IntKind.wrap_u32]; done), by repeat (first | (with_reducible first | exact HB.out | apply below_alloc | apply pw_below_drewN | apply below_drew1 | refine below_set ?_ GE412.out) | exact HB.out)⟩
 ·rw [if_neg c5] at H
  have c5b0 : (t424 == 0) = false := beq_eq_false_iff_ne.mpr c5
  have c5b1 : (t424 != 0) = true := bne_iff_ne.mpr c5
  by_cases c37 : t423.toList = ([] : List UInt8)
  ·rw [if_pos c37] at H
   have c37b0 : (t423.toList == ([] : List UInt8)) = true := beq_iff_eq.mpr c37
   have c37b1 : (t423.toList != ([] : List UInt8)) = false := bne_eq_false_iff_eq.mpr c37
   clear c37
   replace H := Option.bind_eq_some_iff.mp H
   obtain ⟨t425, A380, H⟩ := H
   replace H : (some t425) = some r := H
   have A38 := Aside0.mk A380
   clear A380
   obtain rfl := Option.some.inj H
   go_enter Tryd.func6, Tryd.ntmps6
   go_wp2_with (first | ((with_reducible refine gate_dst (N := 2) rfl ?_); (try (refine gate_guard (by rfl) ?_; dsimp only)); refine box_event ?hg (N := 2) ?hd (cs := #[.int .i64 a0_0, .int .i64 a0_1, .bool a0_2, .bool a0_3, .int .i64 a0_4, .int .i64 a0_5, .int .i64 a0_6, .int .u32 a0_7, .int .u32 a0_8, .string a0_9]) (t := 24) ?hr ?_; (case hd => rfl); (case hg => rfl); (case hr => first | (go_simp; done) | (go_simp; rfl)); intro gb412 hg w39 hbox hb; have n0_ := Aside0.mk (below_step (by repeat (first | (with_reducible first | exact HB.out | apply below_alloc | apply pw_below_drewN | apply below_drew1) | exact HB.out)) hb); have n1_ := Aside0.mk (hbox); have n2_ := Aside0.mk ((by rw [hg]; exact (below_size (by repeat (first | (with_reducible first | exact HB.out | apply below_alloc | apply pw_below_drewN | apply below_drew1) | exact HB.out))) : w.heap.size ≤ gb412)); have n3_ := Aside0.mk ((by rw [hg]; exact (below_size (by repeat (first | (with_reducible first | exact HB.out | apply below_alloc | apply pw_below_drewN | apply below_drew1) | exact HB.out))) : w.heap.size ≤ gb412)); clear HB; have HB := n0_; have BK412 := n1_; have GW412 := n2_; have GE412 := n3_; clear n0_ n1_ n2_ n3_; clear hb hbox hg; have hcz40_0 : w39.cell? ⟨gb412, 0, none⟩ = some (.int .i64 a0_0) := (blk_cell BK412.out 0).trans rfl; have hcz40_1 : w39.cell? ⟨gb412, 1, none⟩ = some (.int .i64 a0_1) := (blk_cell BK412.out 1).trans rfl; have hcz40_2 : w39.cell? ⟨gb412, 2, none⟩ = some (.bool a0_2) := (blk_cell BK412.out 2).trans rfl; have hcz40_3 : w39.cell? ⟨gb412, 3, none⟩ = some (.bool a0_3) := (blk_cell BK412.out 3).trans rfl; have hcz40_4 : w39.cell? ⟨gb412, 4, none⟩ = some (.int .i64 a0_4) := (blk_cell BK412.out 4).trans rfl; have hcz40_5 : w39.cell? ⟨gb412, 5, none⟩ = some (.int .i64 a0_5) := (blk_cell BK412.out 5).trans rfl; have hcz40_6 : w39.cell? ⟨gb412, 6, none⟩ = some (.int .i64 a0_6) := (blk_cell BK412.out 6).trans rfl; have hcz40_7 : w39.cell? ⟨gb412, 7, none⟩ = some (.int .u32 a0_7) := (blk_cell BK412.out 7).trans rfl; have hcz40_8 : w39.cell? ⟨gb412, 8, none⟩ = some (.int .u32 a0_8) := (blk_cell BK412.out 8).trans rfl; have hcz40_9 : w39.cell? ⟨gb412, 9, none⟩ = some (.string a0_9) := (blk_cell BK412.out 9).trans rfl; have hfz40_0 := blk_frozen BK412.out 0; have hfz40_1 := blk_frozen BK412.out 1; have hfz40_2 := blk_frozen BK412.out 2; have hfz40_3 := blk_frozen BK412.out 3; have hfz40_4 := blk_frozen BK412.out 4; have hfz40_5 := blk_frozen BK412.out 5; have hfz40_6 := blk_frozen BK412.out 6; have hfz40_7 := blk_frozen BK412.out 7; have hfz40_8 := blk_frozen BK412.out 8; have hfz40_9 := blk_frozen BK412.out 9) | ((with_reducible refine gate_callee (f := 9) rfl ?_); refine goesL_ (some 13) rfl rfl Tryd.func9 (by kernel_rfl) rfl #[.agg #[.int .i64 a0_0, .int .i64 a0_1, .bool a0_2, .bool a0_3, .int .i64 a0_4, .int .i64 a0_5, .int .i64 a0_6, .int .u32 a0_7, .int .u32 a0_8, .string a0_9]] rfl (by (try simp only [List.map_toArray, List.map_cons, List.map_nil]); first | done | rfl | (simp only [List.length_drop, List.length_take]; rfl)) ?_; (with_reducible refine (gangwaylaw06_cut.calls a0_0 a0_1 a0_2 a0_3 a0_4 a0_5 a0_6 a0_7 a0_8 a0_9 t413 t414 t415 t416 t417 t418 t419 t420 t421 t422 _ A3.out).mono ?_); rintro e w41 ⟨rfl, hb⟩; refine ⟨_, rfl, ?_⟩; have n0_ := Aside0.mk (blk_below (g := gb412) (o := .cells #[.int .i64 a0_0, .int .i64 a0_1, .bool a0_2, .bool a0_3, .int .i64 a0_4, .int .i64 a0_5, .int .i64 a0_6, .int .u32 a0_7, .int .u32 a0_8, .string a0_9] 24 (0, 0)) (by (with_reducible repeat (first | refine blk_drewN ?_ _ | refine blk_drew ?_ | refine blk_alloc ?_ _)); exact BK412.out) hb); have n1_ := Aside0.mk (below_step (by repeat (first | (with_reducible first | exact HB.out | apply below_alloc | apply pw_below_drewN | apply below_drew1 | refine below_set ?_ GE412.out) | exact HB.out)) hb); clear BK412; clear HB; have BK412 := n0_; have HB := n1_; clear n0_ n1_; have hcy1_412_0 := (show World.cell? _ ⟨gb412, 0, none⟩ = some (.int .i64 a0_0) from (blk_cell BK412.out 0).trans rfl); have hcy1_412_1 := (show World.cell? _ ⟨gb412, 1, none⟩ = some (.int .i64 a0_1) from (blk_cell BK412.out 1).trans rfl); have hcy1_412_2 := (show World.cell? _ ⟨gb412, 2, none⟩ = some (.bool a0_2) from (blk_cell BK412.out 2).trans rfl); have hcy1_412_3 := (show World.cell? _ ⟨gb412, 3, none⟩ = some (.bool a0_3) from (blk_cell BK412.out 3).trans rfl); have hcy1_412_4 := (show World.cell? _ ⟨gb412, 4, none⟩ = some (.int .i64 a0_4) from (blk_cell BK412.out 4).trans rfl); have hcy1_412_5 := (show World.cell? _ ⟨gb412, 5, none⟩ = some (.int .i64 a0_5) from (blk_cell BK412.out 5).trans rfl); have hcy1_412_6 := (show World.cell? _ ⟨gb412, 6, none⟩ = some (.int .i64 a0_6) from (blk_cell BK412.out 6).trans rfl); have hcy1_412_7 := (show World.cell? _ ⟨gb412, 7, none⟩ = some (.int .u32 a0_7) from (blk_cell BK412.out 7).trans rfl); have hcy1_412_8 := (show World.cell? _ ⟨gb412, 8, none⟩ = some (.int .u32 a0_8) from (blk_cell BK412.out 8).trans rfl); have hcy1_412_9 := (show World.cell? _ ⟨gb412, 9, none⟩ = some (.string a0_9) from (blk_cell BK412.out 9).trans rfl); (try clear hb); (try clear hb2); (try clear hk); (try clear hi); have hcz42_0 : w41.cell? ⟨gb412, 0, none⟩ = some (.int .i64 a0_0) := (blk_cell BK412.out 0).trans rfl; have hcz42_1 : w41.cell? ⟨gb412, 1, none⟩ = some (.int .i64 a0_1) := (blk_cell BK412.out 1).trans rfl; have hcz42_2 : w41.cell? ⟨gb412, 2, none⟩ = some (.bool a0_2) := (blk_cell BK412.out 2).trans rfl; have hcz42_3 : w41.cell? ⟨gb412, 3, none⟩ = some (.bool a0_3) := (blk_cell BK412.out 3).trans rfl; have hcz42_4 : w41.cell? ⟨gb412, 4, none⟩ = some (.int .i64 a0_4) := (blk_cell BK412.out 4).trans rfl; have hcz42_5 : w41.cell? ⟨gb412, 5, none⟩ = some (.int .i64 a0_5) := (blk_cell BK412.out 5).trans rfl; have hcz42_6 : w41.cell? ⟨gb412, 6, none⟩ = some (.int .i64 a0_6) := (blk_cell BK412.out 6).trans rfl; have hcz42_7 : w41.cell? ⟨gb412, 7, none⟩ = some (.int .u32 a0_7) := (blk_cell BK412.out 7).trans rfl; have hcz42_8 : w41.cell? ⟨gb412, 8, none⟩ = some (.int .u32 a0_8) := (blk_cell BK412.out 8).trans rfl; have hcz42_9 : w41.cell? ⟨gb412, 9, none⟩ = some (.string a0_9) := (blk_cell BK412.out 9).trans rfl; have hfz42_0 := blk_frozen BK412.out 0; have hfz42_1 := blk_frozen BK412.out 1; have hfz42_2 := blk_frozen BK412.out 2; have hfz42_3 := blk_frozen BK412.out 3; have hfz42_4 := blk_frozen BK412.out 4; have hfz42_5 := blk_frozen BK412.out 5; have hfz42_6 := blk_frozen BK412.out 6; have hfz42_7 := blk_frozen BK412.out 7; have hfz42_8 := blk_frozen BK412.out 8; have hfz42_9 := blk_frozen BK412.out 9) | (obtain ⟨w41f, hgw_⟩ : ∃ y, y = (World.setCell (World.setCell (World.setCell (World.setCell w41 ⟨gb412, 0, none⟩ (.int .i64 t413)) ⟨gb412, 1, none⟩ (.int .i64 t414)) ⟨gb412, 2, none⟩ (.bool t415)) ⟨gb412, 3, none⟩ (.bool t416)) := ⟨_, rfl⟩; rw [← hgw_]; have m0_ := Aside0.mk (show w41f.heap[gb412]? = some (.cells #[.int .i64 t413, .int .i64 t414, .bool t415, .bool t416, .int .i64 a0_4, .int .i64 a0_5, .int .i64 a0_6, .int .u32 a0_7, .int .u32 a0_8, .string a0_9] 24 (0, 0)) from (by rw [hgw_]; refine blk_put (cs := #[.int .i64 t413, .int .i64 t414, .bool t415, .bool a0_3, .int .i64 a0_4, .int .i64 a0_5, .int .i64 a0_6, .int .u32 a0_7, .int .u32 a0_8, .string a0_9]) ?_ 3 _ rfl; (with_reducible repeat (first | refine blk_drewN ?_ _ | refine blk_drew ?_ | refine blk_alloc ?_ _)); refine blk_put (cs := #[.int .i64 t413, .int .i64 t414, .bool a0_2, .bool a0_3, .int .i64 a0_4, .int .i64 a0_5, .int .i64 a0_6, .int .u32 a0_7, .int .u32 a0_8, .string a0_9]) ?_ 2 _ rfl; (with_reducible repeat (first | refine blk_drewN ?_ _ | refine blk_drew ?_ | refine blk_alloc ?_ _)); refine blk_put (cs := #[.int .i64 t413, .int .i64 a0_1, .bool a0_2, .bool a0_3, .int .i64 a0_4, .int .i64 a0_5, .int .i64 a0_6, .int .u32 a0_7, .int .u32 a0_8, .string a0_9]) ?_ 1 _ rfl; (with_reducible repeat (first | refine blk_drewN ?_ _ | refine blk_drew ?_ | refine blk_alloc ?_ _)); refine blk_put (cs := #[.int .i64 a0_0, .int .i64 a0_1, .bool a0_2, .bool a0_3, .int .i64 a0_4, .int .i64 a0_5, .int .i64 a0_6, .int .u32 a0_7, .int .u32 a0_8, .string a0_9]) ?_ 0 _ rfl; (with_reducible repeat (first | refine blk_drewN ?_ _ | refine blk_drew ?_ | refine blk_alloc ?_ _)); exact BK412.out)); have mb_ := Aside0.mk (show Below w.heap.size w w41f from (by rw [hgw_]; exact (by repeat (first | (with_reducible first | exact HB.out | apply below_alloc | apply pw_below_drewN | apply below_drew1 | refine below_set ?_ GE412.out) | exact HB.out)))); clear BK412; have BK412 := m0_; clear m0_; clear HB; have HB := mb_; clear mb_; clear hgw_; have hcf412_0 : w41f.cell? ⟨gb412, 0, none⟩ = some (.int .i64 t413) := (blk_cell BK412.out 0).trans rfl; have hcf412_1 : w41f.cell? ⟨gb412, 1, none⟩ = some (.int .i64 t414) := (blk_cell BK412.out 1).trans rfl; have hcf412_2 : w41f.cell? ⟨gb412, 2, none⟩ = some (.bool t415) := (blk_cell BK412.out 2).trans rfl; have hcf412_3 : w41f.cell? ⟨gb412, 3, none⟩ = some (.bool t416) := (blk_cell BK412.out 3).trans rfl; have hcf412_4 : w41f.cell? ⟨gb412, 4, none⟩ = some (.int .i64 a0_4) := (blk_cell BK412.out 4).trans rfl; have hcf412_5 : w41f.cell? ⟨gb412, 5, none⟩ = some (.int .i64 a0_5) := (blk_cell BK412.out 5).trans rfl; have hcf412_6 : w41f.cell? ⟨gb412, 6, none⟩ = some (.int .i64 a0_6) := (blk_cell BK412.out 6).trans rfl; have hcf412_7 : w41f.cell? ⟨gb412, 7, none⟩ = some (.int .u32 a0_7) := (blk_cell BK412.out 7).trans rfl; have hcf412_8 : w41f.cell? ⟨gb412, 8, none⟩ = some (.int .u32 a0_8) := (blk_cell BK412.out 8).trans rfl; have hcf412_9 : w41f.cell? ⟨gb412, 9, none⟩ = some (.string a0_9) := (blk_cell BK412.out 9).trans rfl; have hff412_0 := blk_frozen BK412.out 0; have hff412_1 := blk_frozen BK412.out 1; have hff412_2 := blk_frozen BK412.out 2; have hff412_3 := blk_frozen BK412.out 3; have hff412_4 := blk_frozen BK412.out 4; have hff412_5 := blk_frozen BK412.out 5; have hff412_6 := blk_frozen BK412.out 6; have hff412_7 := blk_frozen BK412.out 7; have hff412_8 := blk_frozen BK412.out 8; have hff412_9 := blk_frozen BK412.out 9) | ((with_reducible refine gate_callee (f := 10) rfl ?_); refine goesL_ (some 16) rfl rfl Tryd.func10 (by kernel_rfl) rfl #[.agg #[.int .i64 t413, .int .i64 t414, .bool t415, .bool t416, .int .i64 t417, .int .i64 t418, .int .i64 t419, .int .u32 t420, .int .u32 t421, .string t422]] rfl (by (try simp only [List.map_toArray, List.map_cons, List.map_nil]); first | done | rfl | (simp only [List.length_drop, List.length_take]; rfl)) ?_; (with_reducible refine (inet_Build.calls k t413 t414 t415 t416 t417 t418 t419 t420 t421 t422 t423 t424 _ A4.out).mono ?_); rintro e w43 ⟨rfl, hb⟩; refine ⟨_, rfl, ?_⟩; have n0_ := Aside0.mk (blk_below (g := gb412) (o := .cells #[.int .i64 t413, .int .i64 t414, .bool t415, .bool t416, .int .i64 t417, .int .i64 t418, .int .i64 t419, .int .u32 t420, .int .u32 t421, .string t422] 24 (0, 0)) (by (with_reducible repeat (first | refine blk_drewN ?_ _ | refine blk_drew ?_ | refine blk_alloc ?_ _)); refine blk_put (cs := #[.int .i64 t413, .int .i64 t414, .bool t415, .bool t416, .int .i64 t417, .int .i64 t418, .int .i64 t419, .int .u32 t420, .int .u32 t421, .string a0_9]) ?_ 9 _ rfl; (with_reducible repeat (first | refine blk_drewN ?_ _ | refine blk_drew ?_ | refine blk_alloc ?_ _)); refine blk_put (cs := #[.int .i64 t413, .int .i64 t414, .bool t415, .bool t416, .int .i64 t417, .int .i64 t418, .int .i64 t419, .int .u32 t420, .int .u32 a0_8, .string a0_9]) ?_ 8 _ rfl; (with_reducible repeat (first | refine blk_drewN ?_ _ | refine blk_drew ?_ | refine blk_alloc ?_ _)); refine blk_put (cs := #[.int .i64 t413, .int .i64 t414, .bool t415, .bool t416, .int .i64 t417, .int .i64 t418, .int .i64 t419, .int .u32 a0_7, .int .u32 a0_8, .string a0_9]) ?_ 7 _ rfl; (with_reducible repeat (first | refine blk_drewN ?_ _ | refine blk_drew ?_ | refine blk_alloc ?_ _)); refine blk_put (cs := #[.int .i64 t413, .int .i64 t414, .bool t415, .bool t416, .int .i64 t417, .int .i64 t418, .int .i64 a0_6, .int .u32 a0_7, .int .u32 a0_8, .string a0_9]) ?_ 6 _ rfl; (with_reducible repeat (first | refine blk_drewN ?_ _ | refine blk_drew ?_ | refine blk_alloc ?_ _)); refine blk_put (cs := #[.int .i64 t413, .int .i64 t414, .bool t415, .bool t416, .int .i64 t417, .int .i64 a0_5, .int .i64 a0_6, .int .u32 a0_7, .int .u32 a0_8, .string a0_9]) ?_ 5 _ rfl; (with_reducible repeat (first | refine blk_drewN ?_ _ | refine blk_drew ?_ | refine blk_alloc ?_ _)); refine blk_put (cs := #[.int .i64 t413, .int .i64 t414, .bool t415, .bool t416, .int .i64 a0_4, .int .i64 a0_5, .int .i64 a0_6, .int .u32 a0_7, .int .u32 a0_8, .string a0_9]) ?_ 4 _ rfl; (with_reducible repeat (first | refine blk_drewN ?_ _ | refine blk_drew ?_ | refine blk_alloc ?_ _)); exact BK412.out) hb); have n1_ := Aside0.mk (below_step (by repeat (first | (with_reducible first | exact HB.out | apply below_alloc | apply pw_below_drewN | apply below_drew1 | refine below_set ?_ GE412.out) | exact HB.out)) hb); clear BK412; clear HB; have BK412 := n0_; have HB := n1_; clear n0_ n1_; have hcy2_412_0 := (show World.cell? _ ⟨gb412, 0, none⟩ = some (.int .i64 t413) from (blk_cell BK412.out 0).trans rfl); have hcy2_412_1 := (show World.cell? _ ⟨gb412, 1, none⟩ = some (.int .i64 t414) from (blk_cell BK412.out 1).trans rfl); have hcy2_412_2 := (show World.cell? _ ⟨gb412, 2, none⟩ = some (.bool t415) from (blk_cell BK412.out 2).trans rfl); have hcy2_412_3 := (show World.cell? _ ⟨gb412, 3, none⟩ = some (.bool t416) from (blk_cell BK412.out 3).trans rfl); have hcy2_412_4 := (show World.cell? _ ⟨gb412, 4, none⟩ = some (.int .i64 t417) from (blk_cell BK412.out 4).trans rfl); have hcy2_412_5 := (show World.cell? _ ⟨gb412, 5, none⟩ = some (.int .i64 t418) from (blk_cell BK412.out 5).trans rfl); have hcy2_412_6 := (show World.cell? _ ⟨gb412, 6, none⟩ = some (.int .i64 t419) from (blk_cell BK412.out 6).trans rfl); have hcy2_412_7 := (show World.cell? _ ⟨gb412, 7, none⟩ = some (.int .u32 t420) from (blk_cell BK412.out 7).trans rfl); have hcy2_412_8 := (show World.cell? _ ⟨gb412, 8, none⟩ = some (.int .u32 t421) from (blk_cell BK412.out 8).trans rfl); have hcy2_412_9 := (show World.cell? _ ⟨gb412, 9, none⟩ = some (.string t422) from (blk_cell BK412.out 9).trans rfl); (try clear hb); (try clear hb2); (try clear hk); (try clear hi)) | (go_at_call 12; (with_reducible refine (gangwaylaw06_fixed.calls k  t425 _ ?sideL A38.out).mono ?_); (case sideL => exact laid_below HLD.out (by repeat (first | (with_reducible first | exact HB.out | apply below_alloc | apply pw_below_drewN | apply below_drew1 | refine below_set ?_ GE412.out) | exact HB.out))); rintro e w44 ⟨rfl, hb⟩; have n0_ := Aside0.mk (blk_below (g := gb412) (o := .cells #[.int .i64 t413, .int .i64 t414, .bool t415, .bool t416, .int .i64 t417, .int .i64 t418, .int .i64 t419, .int .u32 t420, .int .u32 t421, .string t422] 24 (0, 0)) (by (with_reducible repeat (first | refine blk_drewN ?_ _ | refine blk_drew ?_ | refine blk_alloc ?_ _)); exact BK412.out) hb); have n1_ := Aside0.mk (below_step (by repeat (first | (with_reducible first | exact HB.out | apply below_alloc | apply pw_below_drewN | apply below_drew1 | refine below_set ?_ GE412.out) | exact HB.out)) hb); clear BK412; clear HB; have BK412 := n0_; have HB := n1_; clear n0_ n1_; have hcy3_412_0 := (show World.cell? _ ⟨gb412, 0, none⟩ = some (.int .i64 t413) from (blk_cell BK412.out 0).trans rfl); have hcy3_412_1 := (show World.cell? _ ⟨gb412, 1, none⟩ = some (.int .i64 t414) from (blk_cell BK412.out 1).trans rfl); have hcy3_412_2 := (show World.cell? _ ⟨gb412, 2, none⟩ = some (.bool t415) from (blk_cell BK412.out 2).trans rfl); have hcy3_412_3 := (show World.cell? _ ⟨gb412, 3, none⟩ = some (.bool t416) from (blk_cell BK412.out 3).trans rfl); have hcy3_412_4 := (show World.cell? _ ⟨gb412, 4, none⟩ = some (.int .i64 t417) from (blk_cell BK412.out 4).trans rfl); have hcy3_412_5 := (show World.cell? _ ⟨gb412, 5, none⟩ = some (.int .i64 t418) from (blk_cell BK412.out 5).trans rfl); have hcy3_412_6 := (show World.cell? _ ⟨gb412, 6, none⟩ = some (.int .i64 t419) from (blk_cell BK412.out 6).trans rfl); have hcy3_412_7 := (show World.cell? _ ⟨gb412, 7, none⟩ = some (.int .u32 t420) from (blk_cell BK412.out 7).trans rfl); have hcy3_412_8 := (show World.cell? _ ⟨gb412, 8, none⟩ = some (.int .u32 t421) from (blk_cell BK412.out 8).trans rfl); have hcy3_412_9 := (show World.cell? _ ⟨gb412, 9, none⟩ = some (.string t422) from (blk_cell BK412.out 9).trans rfl); (try clear hb); (try clear hb2); (try clear hk); (try clear hi)))
   go_ret
   exact ⟨by first | rfl | (simp [errW_none, errW_some] <;> rfl) | (simp [*, errW_none, errW_some] <;> rfl) | (simp [*, IntKind.wrap_u32]; done) | (simp_all [IntKind.wrap_u32]; done), by repeat (first | (with_reducible first | exact HB.out | apply below_alloc | apply pw_below_drewN | apply below_drew1 | refine below_set ?_ GE412.out) | exact HB.out)⟩
  ·rw [if_neg c37] at H
   exact absurd H (by simp)

end Go.Proofs.YtigagipeaheclaaDoor.P
