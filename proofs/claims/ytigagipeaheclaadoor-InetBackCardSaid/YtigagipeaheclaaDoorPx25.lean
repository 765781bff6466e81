-- squeezed
-- Written by wip/hprint.py (this session's program) through the kit's print program; hand contracts are marked 'by hand'.
import Derived.Test.YtigagipeaheclaaDoorPx0
import Derived.Test.YtigagipeaheclaaDoorPx1
import Derived.Test.YtigagipeaheclaaDoorPx2
import Derived.Test.YtigagipeaheclaaDoorPx7
import Derived.Test.YtigagipeaheclaaDoorPx15
import Derived.Test.YtigagipeaheclaaDoorPx18
namespace Go.Proofs.YtigagipeaheclaaDoor.P
open Go.RowKit Go.Proofs.YtigagipeaheclaaDoorW.PrintWords Go.Proofs.YtigagipeaheclaaDoorW.PrintLast Go.Proofs.YtigagipeaheclaaDoorW.PrintMore
attribute [local go_sem] max2_int min2_int max_two min_two max_three min_three max_four min_four   -- for this text's walks alone
set_option linter.unusedVariables false
set_option linter.unusedSimpArgs false

attribute [local go_sem high] eqA24
/-! ### gangwaylaw06_InetBack: function 5 -/
mutual
def gangwaylaw06_InetBack.j0 : Nat → ByteArray → Int → Int → Bool → Bool → Int → Int → Int → Int → Int → ByteArray → Option (Bool)
 | 0, _, _, _, _, _, _, _, _, _, _, _ => none
 | k + 1, x1, x371000, x371001, x371002, x371003, x371004, x371005, x371006, x371007, x371008, x371009 => (inet_Build.f k x371000 x371001 x371002 x371003 x371004 x371005 x371006 x371007 x371008 x371009).bind fun bt381 => (if bt381.2 = 0 then (if bt381.1.size + x1.size ≤ 9223372036854775807 then ((inet_Parse.f k (bt381.1 ++ x1)).bind fun bt383 => (if bt383.2.2.2.2.2.2.2.2.2.2 = 0 then (if (!(bt383.1 == x371000) || (!(bt383.2.1 == x371001) || (!(bt383.2.2.1 == x371002) || (!(bt383.2.2.2.1 == x371003) || (!(bt383.2.2.2.2.1 == x371004) || (!(bt383.2.2.2.2.2.1 == x371005) || (!(bt383.2.2.2.2.2.2.1 == x371006) || (!(bt383.2.2.2.2.2.2.2.1 == x371007) || (!(bt383.2.2.2.2.2.2.2.2.1 == x371008) || (!(bt383.2.2.2.2.2.2.2.2.2.1.toList == x371009.toList))))))))))) = true then (none) else (gangwaylaw06_InetBack.j1 k x1)) else (none))) else (none)) else (gangwaylaw06_InetBack.j1 k x1))
def gangwaylaw06_InetBack.j1 : Nat → ByteArray → Option (Bool)
 | 0, _ => none
 | k + 1, x1 => (inet_Parse.f k x1).bind fun bt395 => (if bt395.2.2.2.2.2.2.2.2.2.2 = 0 then ((inet_Build.f k bt395.1 bt395.2.1 bt395.2.2.1 bt395.2.2.2.1 bt395.2.2.2.2.1 bt395.2.2.2.2.2.1 bt395.2.2.2.2.2.2.1 bt395.2.2.2.2.2.2.2.1 bt395.2.2.2.2.2.2.2.2.1 bt395.2.2.2.2.2.2.2.2.2.1).bind fun bt408 => (if bt408.2 = 0 then (if (bt408.1.size : Int) > (x1.size : Int) then (none) else (if (bt408.1.size : Int) < 20 then (none) else (if 10 ≤ 12 then (if 12 ≤ (bt408.1.size : Int) then (if 12 ≤ (x1.size : Int) then (if (bt408.1.extract 10 12).toList = (x1.extract 10 12).toList then (if 0 ≤ 10 then (if 10 ≤ (bt408.1.size : Int) then (if 10 ≤ (x1.size : Int) then (if (bt408.1.extract 0 10).toList = (x1.extract 0 10).toList then (if (bt408.1.size : Int) ≤ (x1.size : Int) then (if (bt408.1.extract 12 bt408.1.size).toList = (x1.extract 12 ((bt408.1.size : Int) : Int).toNat).toList then ((gangwaylaw06_fixed.f k).bind fun t410 => (some t410)) else (none)) else (none)) else (none)) else (none)) else (none)) else (none)) else (if (bt408.1.extract 10 12).toList = ([0, 0] : List UInt8) then (if (x1.extract 10 12).toList = ([255, 255] : List UInt8) then (if 0 ≤ 10 then (if 10 ≤ (bt408.1.size : Int) then (if 10 ≤ (x1.size : Int) then (if (bt408.1.extract 0 10).toList = (x1.extract 0 10).toList then (if (bt408.1.size : Int) ≤ (x1.size : Int) then (if (bt408.1.extract 12 bt408.1.size).toList = (x1.extract 12 ((bt408.1.size : Int) : Int).toNat).toList then ((gangwaylaw06_fixed.f k).bind fun t411 => (some t411)) else (none)) else (none)) else (none)) else (none)) else (none)) else (none)) else (none)) else (none))) else (none)) else (none)) else (none)))) else (none))) else (if (bt395.1 == 0 && (bt395.2.1 == 0 && (!bt395.2.2.1 && (!bt395.2.2.2.1 && (bt395.2.2.2.2.1 == 0 && (bt395.2.2.2.2.2.1 == 0 && (bt395.2.2.2.2.2.2.1 == 0 && (bt395.2.2.2.2.2.2.2.1 == 0 && (bt395.2.2.2.2.2.2.2.2.1 == 0 && (bt395.2.2.2.2.2.2.2.2.2.1.toList == ([] : List UInt8))))))))))) = true then ((gangwaylaw06_fixed.f k).bind fun t407 => (some t407)) else (none)))
end
def gangwaylaw06_InetBack.f (k : Nat) (a0_0 : Int) (a0_1 : Int) (a0_2 : Bool) (a0_3 : Bool) (a0_4 : Int) (a0_5 : Int) (a0_6 : Int) (a0_7 : Int) (a0_8 : Int) (a0_9 : ByteArray) (a1 : ByteArray) : Option (Bool) := (gangwaylaw06_cut.f a0_0 a0_1 a0_2 a0_3 a0_4 a0_5 a0_6 a0_7 a0_8 a0_9).bind fun bt371 => (if 0 ≤ (mn (a1.size : Int) 1700) then (if (mn (a1.size : Int) 1700) ≤ (a1.size : Int) then (gangwaylaw06_InetBack.j0 k (a1.extract 0 ((mn (a1.size : Int) 1700) : Int).toNat) bt371.1 bt371.2.1 bt371.2.2.1 bt371.2.2.2.1 bt371.2.2.2.2.1 bt371.2.2.2.2.2.1 bt371.2.2.2.2.2.2.1 bt371.2.2.2.2.2.2.2.1 bt371.2.2.2.2.2.2.2.2.1 bt371.2.2.2.2.2.2.2.2.2) else (none)) else (none))
theorem gangwaylaw06_InetBack.mono_l : ∀ k, (∀ y0 y1 y2 y3 y4 y5 y6 y7 y8 y9 y10, LeO (gangwaylaw06_InetBack.j0 k y0 y1 y2 y3 y4 y5 y6 y7 y8 y9 y10) (gangwaylaw06_InetBack.j0 (k + 1) y0 y1 y2 y3 y4 y5 y6 y7 y8 y9 y10)) ∧ (∀ y0, LeO (gangwaylaw06_InetBack.j1 k y0) (gangwaylaw06_InetBack.j1 (k + 1) y0))
 | 0 => ⟨fun _ _ _ _ _ _ _ _ _ _ _ r h => by simp [gangwaylaw06_InetBack.j0] at h, fun _ r h => by simp [gangwaylaw06_InetBack.j1] at h⟩
 | k + 1 => by
  obtain ⟨ih0, ih1⟩ := gangwaylaw06_InetBack.mono_l k
  refine ⟨?_, ?_⟩
  ·intro y0 y1 y2 y3 y4 y5 y6 y7 y8 y9 y10
   unfold gangwaylaw06_InetBack.j0
   repeat' first
   | (with_reducible exact ih0 _ _ _ _ _ _ _ _ _ _ _)
   | (with_reducible exact ih1 _)
   | (with_reducible exact gangwaylaw06_fixed.mono _)
   | (with_reducible exact inet_Build.mono _ _ _ _ _ _ _ _ _ _ _)
   | (with_reducible exact inet_Parse.mono _ _)
   | (with_reducible exact LeO.refl _)
   | (with_reducible exact LeO.none _)
   | (with_reducible refine LeO.ite ?_ ?_)
   | (with_reducible refine LeO.bind ?_ (fun _ => ?_))
   | exact ih0 _ _ _ _ _ _ _ _ _ _ _
   | exact ih1 _
   | exact gangwaylaw06_fixed.mono _
   | exact inet_Build.mono _ _ _ _ _ _ _ _ _ _ _
   | exact inet_Parse.mono _ _
   | exact LeO.none _
   | refine LeO.ite ?_ ?_
   | refine LeO.bind ?_ (fun _ => ?_)
  ·intro y0
   unfold gangwaylaw06_InetBack.j1
   repeat' first
   | (with_reducible exact ih0 _ _ _ _ _ _ _ _ _ _ _)
   | (with_reducible exact ih1 _)
   | (with_reducible exact gangwaylaw06_fixed.mono _)
   | (with_reducible exact inet_Build.mono _ _ _ _ _ _ _ _ _ _ _)
   | (with_reducible exact inet_Parse.mono _ _)
   | (with_reducible exact LeO.refl _)
   | (with_reducible exact LeO.none _)
   | (with_reducible refine LeO.ite ?_ ?_)
   | (with_reducible refine LeO.bind ?_ (fun _ => ?_))
   | exact ih0 _ _ _ _ _ _ _ _ _ _ _
   | exact ih1 _
   | exact gangwaylaw06_fixed.mono _
   | exact inet_Build.mono _ _ _ _ _ _ _ _ _ _ _
   | exact inet_Parse.mono _ _
   | exact LeO.none _
   | refine LeO.ite ?_ ?_
   | refine LeO.bind ?_ (fun _ => ?_)
theorem gangwaylaw06_InetBack.mono : ∀ a0 a1 a2 a3 a4 a5 a6 a7 a8 a9 a10 k, LeO (gangwaylaw06_InetBack.f k a0 a1 a2 a3 a4 a5 a6 a7 a8 a9 a10) (gangwaylaw06_InetBack.f (k + 1) a0 a1 a2 a3 a4 a5 a6 a7 a8 a9 a10) := by
 intro a0 a1 a2 a3 a4 a5 a6 a7 a8 a9 a10 k
 obtain ⟨ih0, ih1⟩ := gangwaylaw06_InetBack.mono_l k
 unfold gangwaylaw06_InetBack.f
 repeat' first
   | (with_reducible exact ih0 _ _ _ _ _ _ _ _ _ _ _)
   | (with_reducible exact ih1 _)
   | (with_reducible exact gangwaylaw06_fixed.mono _)
   | (with_reducible exact inet_Build.mono _ _ _ _ _ _ _ _ _ _ _)
   | (with_reducible exact inet_Parse.mono _ _)
   | (with_reducible exact LeO.refl _)
   | (with_reducible exact LeO.none _)
   | (with_reducible refine LeO.ite ?_ ?_)
   | (with_reducible refine LeO.bind ?_ (fun _ => ?_))
   | exact ih0 _ _ _ _ _ _ _ _ _ _ _
   | exact ih1 _
   | exact gangwaylaw06_fixed.mono _
   | exact inet_Build.mono _ _ _ _ _ _ _ _ _ _ _
   | exact inet_Parse.mono _ _
   | exact LeO.none _
   | refine LeO.ite ?_ ?_
   | refine LeO.bind ?_ (fun _ => ?_)
def gangwaylaw06_InetBack.T14 : Bool × List (List Nat × List Nat) := (true, [([], []), ([0], [0]), ([], []), ([2], [2]), ([1, 3], [1, 3]), ([4], [4]), ([5], [5]), ([6, 5], [5, 6]), ([7, 5], [5, 7]), ([8, 5, 5], [5, 8]), ([9], [9]), ([10, 9], [9, 10]), ([11, 9], [9, 11]), ([9, 12, 5], [5, 9, 12]), ([5, 13], [5, 13]), ([14, 9, 0, 1, 2, 3, 4, 5, 6, 7, 8, 9, 10, 11, 12, 13, 14], [14])])
def gangwaylaw06_InetBack.B14 : List Nat := [0, 1, 0, 4, 15, 31, 63, 127, 255, 511, 1023, 2047, 4095, 8191, 16383, 32767]
theorem gangwaylaw06_InetBack.tab14 : rtab .any (opsOf Tryd.f5 14) = gangwaylaw06_InetBack.T14 := by kernel_rfl
theorem gangwaylaw06_InetBack.bits14 : waitsOk gangwaylaw06_InetBack.T14.2 gangwaylaw06_InetBack.B14 = true := by kernel_rfl
def gangwaylaw06_InetBack.T15 : Bool × List (List Nat × List Nat) := (true, [([], []), ([0], [0]), ([1], [1]), ([2, 1], [1, 2]), ([1], [1]), ([4, 1], [1, 4]), ([3, 5, 1], [1, 3, 5]), ([1, 6], [1, 6]), ([7, 1], [7]), ([8], [8]), ([9, 8], [8, 9]), ([8], [8]), ([8], [8]), ([12, 8], [8, 12]), ([11, 13, 8], [8, 11, 13]), ([10, 14, 8], [8, 10, 14]), ([8, 15], [8, 15]), ([16, 8], [16]), ([17, 17], [17]), ([17, 18], [17, 18]), ([19, 18, 0, 1, 2, 3, 4, 5, 6, 7, 8, 9, 10, 11, 12, 13, 14, 15, 16, 17, 18, 19], [19])])
def gangwaylaw06_InetBack.B15 : List Nat := [0, 1, 3, 7, 3, 19, 63, 127, 255, 511, 1023, 511, 511, 4607, 14847, 32767, 65535, 131071, 262143, 524287, 1048575]
theorem gangwaylaw06_InetBack.tab15 : rtab .any (opsOf Tryd.f5 15) = gangwaylaw06_InetBack.T15 := by kernel_rfl
theorem gangwaylaw06_InetBack.bits15 : waitsOk gangwaylaw06_InetBack.T15.2 gangwaylaw06_InetBack.B15 = true := by kernel_rfl
set_option maxHeartbeats 8000000 in
set_option maxRecDepth 100000 in
theorem gangwaylaw06_InetBack.calls (k : Nat) (a0_0 : Int) (a0_1 : Int) (a0_2 : Bool) (a0_3 : Bool) (a0_4 : Int) (a0_5 : Int) (a0_6 : Int) (a0_7 : Int) (a0_8 : Int) (a0_9 : ByteArray) (a1 : ByteArray) (r : Bool) (w : World) (hL : Laid w) (h : gangwaylaw06_InetBack.f k a0_0 a0_1 a0_2 a0_3 a0_4 a0_5 a0_6 a0_7 a0_8 a0_9 a1 = some r) :
  Calls Tryd.prog 5 #[.agg #[.int .i64 a0_0, .int .i64 a0_1, .bool a0_2, .bool a0_3, .int .i64 a0_4, .int .i64 a0_5, .int .i64 a0_6, .int .u32 a0_7, .int .u32 a0_8, .string a0_9], .string a1] w fun e w' => e = .returned (.bool r) ∧ Below w.heap.size w w' := by
 have HLD := Aside0.mk hL
 clear hL
 have hu24 := Tryd.underlying24
 have HB := Aside0.mk (Below.refl w.heap.size w)
 have H : ((gangwaylaw06_cut.f a0_0 a0_1 a0_2 a0_3 a0_4 a0_5 a0_6 a0_7 a0_8 a0_9).bind fun bt371 => (if 0 ≤ (mn (a1.size : Int) 1700) then (if (mn (a1.size : Int) 1700) ≤ (a1.size : Int) then (gangwaylaw06_InetBack.j0 k (a1.extract 0 ((mn (a1.size : Int) 1700) : Int).toNat) bt371.1 bt371.2.1 bt371.2.2.1 bt371.2.2.2.1 bt371.2.2.2.2.1 bt371.2.2.2.2.2.1 bt371.2.2.2.2.2.2.1 bt371.2.2.2.2.2.2.2.1 bt371.2.2.2.2.2.2.2.2.1 bt371.2.2.2.2.2.2.2.2.2) else (none)) else (none))) = some r := h
 clear h
 replace H := Option.bind_eq_some_iff.mp H
 obtain ⟨⟨t371, t372, t373, t374, t375, t376, t377, t378, t379, t380⟩, A30, H⟩ := H
 replace H : (if 0 ≤ (mn (a1.size : Int) 1700) then (if (mn (a1.size : Int) 1700) ≤ (a1.size : Int) then (gangwaylaw06_InetBack.j0 k (a1.extract 0 ((mn (a1.size : Int) 1700) : Int).toNat) t371 t372 t373 t374 t375 t376 t377 t378 t379 t380) else (none)) else (none)) = some r := H
 have A3 := Aside0.mk A30
 clear A30
 have HC4 := Aside0.mk H
 clear H
 go_enter Tryd.func5, Tryd.ntmps5
 go_upto_region 2 with (first | ((with_reducible refine gate_dst (N := 2) rfl ?_); (try (refine gate_guard (by rfl) ?_; dsimp only)); refine box_event ?hg (N := 2) ?hd (cs := #[.int .i64 a0_0, .int .i64 a0_1, .bool a0_2, .bool a0_3, .int .i64 a0_4, .int .i64 a0_5, .int .i64 a0_6, .int .u32 a0_7, .int .u32 a0_8, .string a0_9]) (t := 24) ?hr ?_; (case hd => rfl); (case hg => rfl); (case hr => first | (go_simp; done) | (go_simp; rfl)); intro gb370 hg w5 hbox hb; have n0_ := Aside0.mk (below_step (by repeat (first | (with_reducible first | exact HB.out | apply below_alloc | apply pw_below_drewN | apply below_drew1) | exact HB.out)) hb); have n1_ := Aside0.mk (hbox); have n2_ := Aside0.mk ((by rw [hg]; exact (below_size (by repeat (first | (with_reducible first | exact HB.out | apply below_alloc | apply pw_below_drewN | apply below_drew1) | exact HB.out))) : w.heap.size ≤ gb370)); have n3_ := Aside0.mk ((by rw [hg]; exact (below_size (by repeat (first | (with_reducible first | exact HB.out | apply below_alloc | apply pw_below_drewN | apply below_drew1) | exact HB.out))) : w.heap.size ≤ gb370)); clear HB; have HB := n0_; have BK370 := n1_; have GW370 := n2_; have GE370 := n3_; clear n0_ n1_ n2_ n3_; clear hb hbox hg; have hcz6_0 : w5.cell? ⟨gb370, 0, none⟩ = some (.int .i64 a0_0) := (blk_cell BK370.out 0).trans rfl; have hcz6_1 : w5.cell? ⟨gb370, 1, none⟩ = some (.int .i64 a0_1) := (blk_cell BK370.out 1).trans rfl; have hcz6_2 : w5.cell? ⟨gb370, 2, none⟩ = some (.bool a0_2) := (blk_cell BK370.out 2).trans rfl; have hcz6_3 : w5.cell? ⟨gb370, 3, none⟩ = some (.bool a0_3) := (blk_cell BK370.out 3).trans rfl; have hcz6_4 : w5.cell? ⟨gb370, 4, none⟩ = some (.int .i64 a0_4) := (blk_cell BK370.out 4).trans rfl; have hcz6_5 : w5.cell? ⟨gb370, 5, none⟩ = some (.int .i64 a0_5) := (blk_cell BK370.out 5).trans rfl; have hcz6_6 : w5.cell? ⟨gb370, 6, none⟩ = some (.int .i64 a0_6) := (blk_cell BK370.out 6).trans rfl; have hcz6_7 : w5.cell? ⟨gb370, 7, none⟩ = some (.int .u32 a0_7) := (blk_cell BK370.out 7).trans rfl; have hcz6_8 : w5.cell? ⟨gb370, 8, none⟩ = some (.int .u32 a0_8) := (blk_cell BK370.out 8).trans rfl; have hcz6_9 : w5.cell? ⟨gb370, 9, none⟩ = some (.string a0_9) := (blk_cell BK370.out 9).trans rfl; have hfz6_0 := blk_frozen BK370.out 0; have hfz6_1 := blk_frozen BK370.out 1; have hfz6_2 := blk_frozen BK370.out 2; have hfz6_3 := blk_frozen BK370.out 3; have hfz6_4 := blk_frozen BK370.out 4; have hfz6_5 := blk_frozen BK370.out 5; have hfz6_6 := blk_frozen BK370.out 6; have hfz6_7 := blk_frozen BK370.out 7; have hfz6_8 := blk_frozen BK370.out 8; have hfz6_9 := blk_frozen BK370.out 9) | ((with_reducible refine gate_callee (f := 9) rfl ?_); refine goesL_ (some 15) rfl rfl Tryd.func9 (by kernel_rfl) rfl #[.agg #[.int .i64 a0_0, .int .i64 a0_1, .bool a0_2, .bool a0_3, .int .i64 a0_4, .int .i64 a0_5, .int .i64 a0_6, .int .u32 a0_7, .int .u32 a0_8, .string a0_9]] rfl (by (try simp only [List.map_toArray, List.map_cons, List.map_nil]); first | done | rfl | (simp only [List.length_drop, List.length_take]; rfl)) ?_; (with_reducible refine (gangwaylaw06_cut.calls a0_0 a0_1 a0_2 a0_3 a0_4 a0_5 a0_6 a0_7 a0_8 a0_9 t371 t372 t373 t374 t375 t376 t377 t378 t379 t380 _ A3.out).mono ?_); rintro e w7 ⟨rfl, hb⟩; refine ⟨_, rfl, ?_⟩; have n0_ := Aside0.mk (blk_below (g := gb370) (o := .cells #[.int .i64 a0_0, .int .i64 a0_1, .bool a0_2, .bool a0_3, .int .i64 a0_4, .int .i64 a0_5, .int .i64 a0_6, .int .u32 a0_7, .int .u32 a0_8, .string a0_9] 24 (0, 0)) (by (with_reducible repeat (first | refine blk_drewN ?_ _ | refine blk_drew ?_ | refine blk_alloc ?_ _)); exact BK370.out) hb); have n1_ := Aside0.mk (below_step (by repeat (first | (with_reducible first | exact HB.out | apply below_alloc | apply pw_below_drewN | apply below_drew1 | refine below_set ?_ GE370.out) | exact HB.out)) hb); clear BK370; clear HB; have BK370 := n0_; have HB := n1_; clear n0_ n1_; (try clear hb); (try clear hb2); (try clear hk); (try clear hi); have hcz8_0 : w7.cell? ⟨gb370, 0, none⟩ = some (.int .i64 a0_0) := (blk_cell BK370.out 0).trans rfl; have hcz8_1 : w7.cell? ⟨gb370, 1, none⟩ = some (.int .i64 a0_1) := (blk_cell BK370.out 1).trans rfl; have hcz8_2 : w7.cell? ⟨gb370, 2, none⟩ = some (.bool a0_2) := (blk_cell BK370.out 2).trans rfl; have hcz8_3 : w7.cell? ⟨gb370, 3, none⟩ = some (.bool a0_3) := (blk_cell BK370.out 3).trans rfl; have hcz8_4 : w7.cell? ⟨gb370, 4, none⟩ = some (.int .i64 a0_4) := (blk_cell BK370.out 4).trans rfl; have hcz8_5 : w7.cell? ⟨gb370, 5, none⟩ = some (.int .i64 a0_5) := (blk_cell BK370.out 5).trans rfl; have hcz8_6 : w7.cell? ⟨gb370, 6, none⟩ = some (.int .i64 a0_6) := (blk_cell BK370.out 6).trans rfl; have hcz8_7 : w7.cell? ⟨gb370, 7, none⟩ = some (.int .u32 a0_7) := (blk_cell BK370.out 7).trans rfl; have hcz8_8 : w7.cell? ⟨gb370, 8, none⟩ = some (.int .u32 a0_8) := (blk_cell BK370.out 8).trans rfl; have hcz8_9 : w7.cell? ⟨gb370, 9, none⟩ = some (.string a0_9) := (blk_cell BK370.out 9).trans rfl; have hfz8_0 := blk_frozen BK370.out 0; have hfz8_1 := blk_frozen BK370.out 1; have hfz8_2 := blk_frozen BK370.out 2; have hfz8_3 := blk_frozen BK370.out 3; have hfz8_4 := blk_frozen BK370.out 4; have hfz8_5 := blk_frozen BK370.out 5; have hfz8_6 := blk_frozen BK370.out 6; have hfz8_7 := blk_frozen BK370.out 7; have hfz8_8 := blk_frozen BK370.out 8; have hfz8_9 := blk_frozen BK370.out 9))
 (try simp only [Act.put, List.setIfInBounds_toArray, List.set_cons_zero, List.set_cons_succ])
 go_cut [1] (fun v1 wc => ∃ (kq : Nat) (x1_3 : ByteArray), v1 = .string x1_3 ∧ Aside0 (gangwaylaw06_InetBack.j0 kq x1_3 t371 t372 t373 t374 t375 t376 t377 t378 t379 t380 = some r) ∧ Aside0 (kq ≤ k) ∧ Aside0 (wc.heap[gb370]? = some (.cells #[.int .i64 t371, .int .i64 t372, .bool t373, .bool t374, .int .i64 t375, .int .i64 t376, .int .i64 t377, .int .u32 t378, .int .u32 t379, .string t380] 24 (0, 0))) ∧ Aside0 (Below w.heap.size w wc))
 case first =>
  have H := HC4.out
  clear HC4
  obtain ⟨ji9, hji9⟩ : ∃ j_ : Int, (mn (a1.size : Int) 1700) = j_ := ⟨_, rfl⟩
  replace H : (if 0 ≤ (ji9) then (if (ji9) ≤ (a1.size : Int) then (gangwaylaw06_InetBack.j0 k (a1.extract 0 ((ji9) : Int).toNat) t371 t372 t373 t374 t375 t376 t377 t378 t379 t380) else (none)) else (none)) = some r := by first | (rw [hji9] at H; exact H) | (simp only [hji9] at H ⊢; exact H)
  (try (have hji9h : ji9 ≤ 1700 := by (rw [← hji9]; unfold mn; (repeat' split) <;> omega)))
  (try (have hji9g : ji9 ≤ 64 := by omega))
  (try (have hji9l : 0 ≤ ji9 := by (rw [← hji9]; unfold mn; (repeat' split) <;> omega)))
  (try (have hji9m : 0 ≤ ji9 := by omega))
  have hji9_ : (if 1700 < (a1.size : Int) then 1700 else (a1.size : Int)) = ji9 := hji9
  by_cases c10 : 0 ≤ (ji9)
  ·rw [if_pos c10] at H
   have c10b0 := eq_true c10
   have c10b1 : decide (0 ≤ (ji9)) = true := decide_eq_true c10
   clear c10
   by_cases c11 : (ji9) ≤ (a1.size : Int)
   ·rw [if_pos c11] at H
    have c11b0 := eq_true c11
    have c11b1 : decide ((ji9) ≤ (a1.size : Int)) = true := decide_eq_true c11
    clear c11
    have H' := Aside0.mk H
    clear H
    go_wp2
    go_meet
    case rel => exact ⟨_, (a1.extract 0 ((ji9) : Int).toNat), (by first | rfl | (simp; done) | (simp only [← hji9] <;> (first | rfl | simp)) | (simp [*]; done)), H', ⟨by first | omega | exact Nat.le_refl _⟩, ⟨by (with_reducible repeat (first | refine blk_drewN ?_ _ | refine blk_drew ?_ | refine blk_alloc ?_ _)); refine blk_put (cs := #[.int .i64 t371, .int .i64 t372, .bool t373, .bool t374, .int .i64 t375, .int .i64 t376, .int .i64 t377, .int .u32 t378, .int .u32 t379, .string a0_9]) ?_ 9 _ rfl; (with_reducible repeat (first | refine blk_drewN ?_ _ | refine blk_drew ?_ | refine blk_alloc ?_ _)); refine blk_put (cs := #[.int .i64 t371, .int .i64 t372, .bool t373, .bool t374, .int .i64 t375, .int .i64 t376, .int .i64 t377, .int .u32 t378, .int .u32 a0_8, .string a0_9]) ?_ 8 _ rfl; (with_reducible repeat (first | refine blk_drewN ?_ _ | refine blk_drew ?_ | refine blk_alloc ?_ _)); refine blk_put (cs := #[.int .i64 t371, .int .i64 t372, .bool t373, .bool t374, .int .i64 t375, .int .i64 t376, .int .i64 t377, .int .u32 a0_7, .int .u32 a0_8, .string a0_9]) ?_ 7 _ rfl; (with_reducible repeat (first | refine blk_drewN ?_ _ | refine blk_drew ?_ | refine blk_alloc ?_ _)); refine blk_put (cs := #[.int .i64 t371, .int .i64 t372, .bool t373, .bool t374, .int .i64 t375, .int .i64 t376, .int .i64 a0_6, .int .u32 a0_7, .int .u32 a0_8, .string a0_9]) ?_ 6 _ rfl; (with_reducible repeat (first | refine blk_drewN ?_ _ | refine blk_drew ?_ | refine blk_alloc ?_ _)); refine blk_put (cs := #[.int .i64 t371, .int .i64 t372, .bool t373, .bool t374, .int .i64 t375, .int .i64 a0_5, .int .i64 a0_6, .int .u32 a0_7, .int .u32 a0_8, .string a0_9]) ?_ 5 _ rfl; (with_reducible repeat (first | refine blk_drewN ?_ _ | refine blk_drew ?_ | refine blk_alloc ?_ _)); refine blk_put (cs := #[.int .i64 t371, .int .i64 t372, .bool t373, .bool t374, .int .i64 a0_4, .int .i64 a0_5, .int .i64 a0_6, .int .u32 a0_7, .int .u32 a0_8, .string a0_9]) ?_ 4 _ rfl; (with_reducible repeat (first | refine blk_drewN ?_ _ | refine blk_drew ?_ | refine blk_alloc ?_ _)); refine blk_put (cs := #[.int .i64 t371, .int .i64 t372, .bool t373, .bool a0_3, .int .i64 a0_4, .int .i64 a0_5, .int .i64 a0_6, .int .u32 a0_7, .int .u32 a0_8, .string a0_9]) ?_ 3 _ rfl; (with_reducible repeat (first | refine blk_drewN ?_ _ | refine blk_drew ?_ | refine blk_alloc ?_ _)); refine blk_put (cs := #[.int .i64 t371, .int .i64 t372, .bool a0_2, .bool a0_3, .int .i64 a0_4, .int .i64 a0_5, .int .i64 a0_6, .int .u32 a0_7, .int .u32 a0_8, .string a0_9]) ?_ 2 _ rfl; (with_reducible repeat (first | refine blk_drewN ?_ _ | refine blk_drew ?_ | refine blk_alloc ?_ _)); refine blk_put (cs := #[.int .i64 t371, .int .i64 a0_1, .bool a0_2, .bool a0_3, .int .i64 a0_4, .int .i64 a0_5, .int .i64 a0_6, .int .u32 a0_7, .int .u32 a0_8, .string a0_9]) ?_ 1 _ rfl; (with_reducible repeat (first | refine blk_drewN ?_ _ | refine blk_drew ?_ | refine blk_alloc ?_ _)); refine blk_put (cs := #[.int .i64 a0_0, .int .i64 a0_1, .bool a0_2, .bool a0_3, .int .i64 a0_4, .int .i64 a0_5, .int .i64 a0_6, .int .u32 a0_7, .int .u32 a0_8, .string a0_9]) ?_ 0 _ rfl; (with_reducible repeat (first | refine blk_drewN ?_ _ | refine blk_drew ?_ | refine blk_alloc ?_ _)); exact BK370.out⟩, ⟨by repeat (first | (with_reducible first | exact HB.out | apply below_alloc | apply pw_below_drewN | apply below_drew1 | refine below_set ?_ GE370.out) | exact HB.out)⟩⟩
   ·rw [if_neg c11] at H
    exact absurd H (by simp)
  ·rw [if_neg c10] at H
   exact absurd H (by simp)
 case rest =>
  clear HC4
  try clear c1
  try clear p2
  try clear c5
  try clear c9
  try clear c10
  try clear c10b0
  try clear c10b1
  try clear c11
  try clear c11b0
  try clear c11b1
  try clear hcz6_0
  try clear hcz6_1
  try clear hcz6_2
  try clear hcz6_3
  try clear hcz6_4
  try clear hcz6_5
  try clear hcz6_6
  try clear hcz6_7
  try clear hcz6_8
  try clear hcz6_9
  try clear hcz8_0
  try clear hcz8_1
  try clear hcz8_2
  try clear hcz8_3
  try clear hcz8_4
  try clear hcz8_5
  try clear hcz8_6
  try clear hcz8_7
  try clear hcz8_8
  try clear hcz8_9
  try clear hfz6_0
  try clear hfz6_1
  try clear hfz6_2
  try clear hfz6_3
  try clear hfz6_4
  try clear hfz6_5
  try clear hfz6_6
  try clear hfz6_7
  try clear hfz6_8
  try clear hfz6_9
  try clear hfz8_0
  try clear hfz8_1
  try clear hfz8_2
  try clear hfz8_3
  try clear hfz8_4
  try clear hfz8_5
  try clear hfz8_6
  try clear hfz8_7
  try clear hfz8_8
  try clear hfz8_9
  obtain ⟨kq, x1_3, rfl, HA, HJ3, BK370, HB⟩ := hcut
  cases kq with
  | zero => exact absurd HA.out (by simp [gangwaylaw06_InetBack.j0])
  | succ kj3 =>
   have H := HA.out
   clear HA
   simp only [gangwaylaw06_InetBack.j0] at H
   replace H := Option.bind_eq_some_iff.mp H
   obtain ⟨⟨t381, t382⟩, A120, H⟩ := H
   replace H : (if t382 = 0 then (if t381.size + x1_3.size ≤ 9223372036854775807 then ((inet_Parse.f kj3 (t381 ++ x1_3)).bind fun bt383 => (if bt383.2.2.2.2.2.2.2.2.2.2 = 0 then (if (!(bt383.1 == t371) || (!(bt383.2.1 == t372) || (!(bt383.2.2.1 == t373) || (!(bt383.2.2.2.1 == t374) || (!(bt383.2.2.2.2.1 == t375) || (!(bt383.2.2.2.2.2.1 == t376) || (!(bt383.2.2.2.2.2.2.1 == t377) || (!(bt383.2.2.2.2.2.2.2.1 == t378) || (!(bt383.2.2.2.2.2.2.2.2.1 == t379) || (!(bt383.2.2.2.2.2.2.2.2.2.1.toList == t380.toList))))))))))) = true then (none) else (gangwaylaw06_InetBack.j1 kj3 x1_3)) else (none))) else (none)) else (gangwaylaw06_InetBack.j1 kj3 x1_3)) = some r := H
   have A12 := Aside0.mk A120
   clear A120
   have HC13 := Aside0.mk H
   clear H
   have hcz14_0 : wc.cell? ⟨gb370, 0, none⟩ = some (.int .i64 t371) := (blk_cell BK370.out 0).trans rfl
   have hcz14_1 : wc.cell? ⟨gb370, 1, none⟩ = some (.int .i64 t372) := (blk_cell BK370.out 1).trans rfl
   have hcz14_2 : wc.cell? ⟨gb370, 2, none⟩ = some (.bool t373) := (blk_cell BK370.out 2).trans rfl
   have hcz14_3 : wc.cell? ⟨gb370, 3, none⟩ = some (.bool t374) := (blk_cell BK370.out 3).trans rfl
   have hcz14_4 : wc.cell? ⟨gb370, 4, none⟩ = some (.int .i64 t375) := (blk_cell BK370.out 4).trans rfl
   have hcz14_5 : wc.cell? ⟨gb370, 5, none⟩ = some (.int .i64 t376) := (blk_cell BK370.out 5).trans rfl
   have hcz14_6 : wc.cell? ⟨gb370, 6, none⟩ = some (.int .i64 t377) := (blk_cell BK370.out 6).trans rfl
   have hcz14_7 : wc.cell? ⟨gb370, 7, none⟩ = some (.int .u32 t378) := (blk_cell BK370.out 7).trans rfl
   have hcz14_8 : wc.cell? ⟨gb370, 8, none⟩ = some (.int .u32 t379) := (blk_cell BK370.out 8).trans rfl
   have hcz14_9 : wc.cell? ⟨gb370, 9, none⟩ = some (.string t380) := (blk_cell BK370.out 9).trans rfl
   have hfz14_0 := blk_frozen BK370.out 0
   have hfz14_1 := blk_frozen BK370.out 1
   have hfz14_2 := blk_frozen BK370.out 2
   have hfz14_3 := blk_frozen BK370.out 3
   have hfz14_4 := blk_frozen BK370.out 4
   have hfz14_5 := blk_frozen BK370.out 5
   have hfz14_6 := blk_frozen BK370.out 6
   have hfz14_7 := blk_frozen BK370.out 7
   have hfz14_8 := blk_frozen BK370.out 8
   have hfz14_9 := blk_frozen BK370.out 9
   go_upto_if 27 with (first | ((with_reducible refine gate_callee (f := 10) rfl ?_); refine goesL_ (some 23) rfl rfl Tryd.func10 (by kernel_rfl) rfl #[.agg #[.int .i64 t371, .int .i64 t372, .bool t373, .bool t374, .int .i64 t375, .int .i64 t376, .int .i64 t377, .int .u32 t378, .int .u32 t379, .string t380]] rfl (by (try simp only [List.map_toArray, List.map_cons, List.map_nil]); first | done | rfl | (simp only [List.length_drop, List.length_take]; rfl)) ?_; (with_reducible refine (inet_Build.calls kj3 t371 t372 t373 t374 t375 t376 t377 t378 t379 t380 t381 t382 _ A12.out).mono ?_); rintro e w15 ⟨rfl, hb⟩; refine ⟨_, rfl, ?_⟩; have n0_ := Aside0.mk (blk_below (g := gb370) (o := .cells #[.int .i64 t371, .int .i64 t372, .bool t373, .bool t374, .int .i64 t375, .int .i64 t376, .int .i64 t377, .int .u32 t378, .int .u32 t379, .string t380] 24 (0, 0)) (by (with_reducible repeat (first | refine blk_drewN ?_ _ | refine blk_drew ?_ | refine blk_alloc ?_ _)); exact BK370.out) hb); have n1_ := Aside0.mk (below_step (by repeat (first | (with_reducible first | exact HB.out | apply below_alloc | apply pw_below_drewN | apply below_drew1 | refine below_set ?_ GE370.out) | exact HB.out)) hb); clear BK370; clear HB; have BK370 := n0_; have HB := n1_; clear n0_ n1_; (try clear hb); (try clear hb2); (try clear hk); (try clear hi)))
   (try simp only [Act.put, List.setIfInBounds_toArray, List.set_cons_zero, List.set_cons_succ])
   go_cut [] (fun wc => ∃ (kq : Nat), Aside0 (gangwaylaw06_InetBack.j1 kq x1_3 = some r) ∧ Aside0 (kq ≤ kj3) ∧ Aside0 (wc.heap[gb370]? = some (.cells #[.int .i64 t371, .int .i64 t372, .bool t373, .bool t374, .int .i64 t375, .int .i64 t376, .int .i64 t377, .int .u32 t378, .int .u32 t379, .string t380] 24 (0, 0))) ∧ Aside0 (Below w.heap.size w wc))
   case first =>
    have H := HC13.out
    clear HC13
    by_cases c16 : t382 = 0
    ·rw [if_pos c16] at H
     have c16b0 : (t382 == 0) = true := beq_iff_eq.mpr c16
     have c16b1 : (t382 != 0) = false := bne_eq_false_iff_eq.mpr c16
     clear c16
     (first | rw [c16b0] | (simp only [i64_w, i32_w]; rw [c16b0]) | skip)
     by_cases c17 : t381.size + x1_3.size ≤ 9223372036854775807
     ·rw [if_pos c17] at H
      have c17b0 := eq_true c17
      have c17b1 : decide (t381.size + x1_3.size ≤ 9223372036854775807) = true := decide_eq_true c17
      try have c17b2 : (9223372036854775807 < t381.size + x1_3.size) = False := eq_false (Nat.not_lt.2 c17)
      replace H := Option.bind_eq_some_iff.mp H
      obtain ⟨⟨t383, t384, t385, t386, t387, t388, t389, t390, t391, t392, t393⟩, A180, H⟩ := H
      replace H : (if t393 = 0 then (if (!(t383 == t371) || (!(t384 == t372) || (!(t385 == t373) || (!(t386 == t374) || (!(t387 == t375) || (!(t388 == t376) || (!(t389 == t377) || (!(t390 == t378) || (!(t391 == t379) || (!(t392.toList == t380.toList))))))))))) = true then (none) else (gangwaylaw06_InetBack.j1 kj3 x1_3)) else (none)) = some r := H
      have A18 := Aside0.mk A180
      clear A180
      by_cases c19 : t393 = 0
      ·rw [if_pos c19] at H
       have c19b0 : (t393 == 0) = true := beq_iff_eq.mpr c19
       have c19b1 : (t393 != 0) = false := bne_eq_false_iff_eq.mpr c19
       clear c19
       by_cases c20 : (!(t383 == t371) || (!(t384 == t372) || (!(t385 == t373) || (!(t386 == t374) || (!(t387 == t375) || (!(t388 == t376) || (!(t389 == t377) || (!(t390 == t378) || (!(t391 == t379) || (!(t392.toList == t380.toList))))))))))) = true
       ·rw [if_pos c20] at H
        exact absurd H (by simp)
       ·rw [if_neg c20] at H
        have c20b0 : (!(t383 == t371) || (!(t384 == t372) || (!(t385 == t373) || (!(t386 == t374) || (!(t387 == t375) || (!(t388 == t376) || (!(t389 == t377) || (!(t390 == t378) || (!(t391 == t379) || (!(t392.toList == t380.toList))))))))))) = false := by simpa using c20
        clear c20
        have H' := Aside0.mk H
        clear H
        go_wp2_with (first | ((with_reducible refine gate_callee (f := 16) rfl ?_); refine goesL_ (some 32) rfl rfl Tryd.func16 (by kernel_rfl) rfl #[.string (t381 ++ x1_3)] rfl (by (try simp only [List.map_toArray, List.map_cons, List.map_nil]); first | done | rfl | (simp only [List.length_drop, List.length_take]; rfl)) ?_; (with_reducible refine (inet_Parse.calls kj3 (t381 ++ x1_3) t383 t384 t385 t386 t387 t388 t389 t390 t391 t392 t393 _ ?sideL A18.out).mono ?_); (case sideL => exact laid_below HLD.out (by repeat (first | (with_reducible first | exact HB.out | apply below_alloc | apply pw_below_drewN | apply below_drew1 | refine below_set ?_ GE370.out) | exact HB.out))); rintro e w21 ⟨rfl, hb⟩; refine ⟨_, rfl, ?_⟩; have n0_ := Aside0.mk (blk_below (g := gb370) (o := .cells #[.int .i64 t371, .int .i64 t372, .bool t373, .bool t374, .int .i64 t375, .int .i64 t376, .int .i64 t377, .int .u32 t378, .int .u32 t379, .string t380] 24 (0, 0)) (by (with_reducible repeat (first | refine blk_drewN ?_ _ | refine blk_drew ?_ | refine blk_alloc ?_ _)); exact BK370.out) hb); have n1_ := Aside0.mk (below_step (by repeat (first | (with_reducible first | exact HB.out | apply below_alloc | apply pw_below_drewN | apply below_drew1 | refine below_set ?_ GE370.out) | exact HB.out)) hb); clear BK370; clear HB; have BK370 := n0_; have HB := n1_; clear n0_ n1_; have hcy1_370_0 := (show World.cell? _ ⟨gb370, 0, none⟩ = some (.int .i64 t371) from (blk_cell BK370.out 0).trans rfl); have hcy1_370_1 := (show World.cell? _ ⟨gb370, 1, none⟩ = some (.int .i64 t372) from (blk_cell BK370.out 1).trans rfl); have hcy1_370_2 := (show World.cell? _ ⟨gb370, 2, none⟩ = some (.bool t373) from (blk_cell BK370.out 2).trans rfl); have hcy1_370_3 := (show World.cell? _ ⟨gb370, 3, none⟩ = some (.bool t374) from (blk_cell BK370.out 3).trans rfl); have hcy1_370_4 := (show World.cell? _ ⟨gb370, 4, none⟩ = some (.int .i64 t375) from (blk_cell BK370.out 4).trans rfl); have hcy1_370_5 := (show World.cell? _ ⟨gb370, 5, none⟩ = some (.int .i64 t376) from (blk_cell BK370.out 5).trans rfl); have hcy1_370_6 := (show World.cell? _ ⟨gb370, 6, none⟩ = some (.int .i64 t377) from (blk_cell BK370.out 6).trans rfl); have hcy1_370_7 := (show World.cell? _ ⟨gb370, 7, none⟩ = some (.int .u32 t378) from (blk_cell BK370.out 7).trans rfl); have hcy1_370_8 := (show World.cell? _ ⟨gb370, 8, none⟩ = some (.int .u32 t379) from (blk_cell BK370.out 8).trans rfl); have hcy1_370_9 := (show World.cell? _ ⟨gb370, 9, none⟩ = some (.string t380) from (blk_cell BK370.out 9).trans rfl); (try clear hb); (try clear hb2); (try clear hk); (try clear hi)) | ((with_reducible refine gate_dst (N := 7) rfl ?_); (try (refine gate_guard (by rfl) ?_; dsimp only)); refine box_event ?hg (N := 7) ?hd (cs := #[.int .i64 0, .int .i64 0, .bool false, .bool false, .int .i64 0, .int .i64 0, .int .i64 0, .int .u32 0, .int .u32 0, .string (⟨#[]⟩ : ByteArray)]) (t := 24) ?hr ?_; (case hd => rfl); (case hg => rfl); (case hr => first | (go_simp; done) | (go_simp; rfl)); intro gb394 hg w22 hbox hb; have n0_ := Aside0.mk (blk_below (g := gb370) (o := .cells #[.int .i64 t371, .int .i64 t372, .bool t373, .bool t374, .int .i64 t375, .int .i64 t376, .int .i64 t377, .int .u32 t378, .int .u32 t379, .string t380] 24 (0, 0)) (by (with_reducible repeat (first | refine blk_drewN ?_ _ | refine blk_drew ?_ | refine blk_alloc ?_ _)); exact BK370.out) hb); have n1_ := Aside0.mk (below_step (by repeat (first | (with_reducible first | exact HB.out | apply below_alloc | apply pw_below_drewN | apply below_drew1 | refine below_set ?_ GE370.out) | exact HB.out)) hb); have n2_ := Aside0.mk (hbox); have n3_ := Aside0.mk ((by rw [hg]; exact (below_size (by repeat (first | (with_reducible first | exact HB.out | apply below_alloc | apply pw_below_drewN | apply below_drew1 | refine below_set ?_ GE370.out) | exact HB.out))) : w.heap.size ≤ gb394)); have n4_ := Aside0.mk ((by rw [hg]; exact (below_size (by repeat (first | (with_reducible first | exact HB.out | apply below_alloc | apply pw_below_drewN | apply below_drew1 | refine below_set ?_ GE370.out) | exact HB.out))) : w.heap.size ≤ gb394)); have n5_ := Aside0.mk ((by rw [hg]; exact Nat.ne_of_lt (blk_lt (g := gb370) (o := .cells #[.int .i64 t371, .int .i64 t372, .bool t373, .bool t374, .int .i64 t375, .int .i64 t376, .int .i64 t377, .int .u32 t378, .int .u32 t379, .string t380] 24 (0, 0)) (by (with_reducible repeat (first | refine blk_drewN ?_ _ | refine blk_drew ?_ | refine blk_alloc ?_ _)); exact BK370.out)) : gb370 ≠ gb394)); have n6_ := Aside0.mk ((by rw [hg]; exact Nat.ne_of_gt (blk_lt (g := gb370) (o := .cells #[.int .i64 t371, .int .i64 t372, .bool t373, .bool t374, .int .i64 t375, .int .i64 t376, .int .i64 t377, .int .u32 t378, .int .u32 t379, .string t380] 24 (0, 0)) (by (with_reducible repeat (first | refine blk_drewN ?_ _ | refine blk_drew ?_ | refine blk_alloc ?_ _)); exact BK370.out)) : gb394 ≠ gb370)); clear BK370; clear HB; have BK370 := n0_; have HB := n1_; have BK394 := n2_; have GW394 := n3_; have GE394 := n4_; have NB370_394 := n5_; have NB394_370 := n6_; clear n0_ n1_ n2_ n3_ n4_ n5_ n6_; have hcy2_370_0 := (show World.cell? _ ⟨gb370, 0, none⟩ = some (.int .i64 t371) from (blk_cell BK370.out 0).trans rfl); have hcy2_370_1 := (show World.cell? _ ⟨gb370, 1, none⟩ = some (.int .i64 t372) from (blk_cell BK370.out 1).trans rfl); have hcy2_370_2 := (show World.cell? _ ⟨gb370, 2, none⟩ = some (.bool t373) from (blk_cell BK370.out 2).trans rfl); have hcy2_370_3 := (show World.cell? _ ⟨gb370, 3, none⟩ = some (.bool t374) from (blk_cell BK370.out 3).trans rfl); have hcy2_370_4 := (show World.cell? _ ⟨gb370, 4, none⟩ = some (.int .i64 t375) from (blk_cell BK370.out 4).trans rfl); have hcy2_370_5 := (show World.cell? _ ⟨gb370, 5, none⟩ = some (.int .i64 t376) from (blk_cell BK370.out 5).trans rfl); have hcy2_370_6 := (show World.cell? _ ⟨gb370, 6, none⟩ = some (.int .i64 t377) from (blk_cell BK370.out 6).trans rfl); have hcy2_370_7 := (show World.cell? _ ⟨gb370, 7, none⟩ = some (.int .u32 t378) from (blk_cell BK370.out 7).trans rfl); have hcy2_370_8 := (show World.cell? _ ⟨gb370, 8, none⟩ = some (.int .u32 t379) from (blk_cell BK370.out 8).trans rfl); have hcy2_370_9 := (show World.cell? _ ⟨gb370, 9, none⟩ = some (.string t380) from (blk_cell BK370.out 9).trans rfl); clear hb hbox hg; have hnb23 := NB394_370.out; have hnc23 := NB370_394.out; have hcz24_0 : w22.cell? ⟨gb394, 0, none⟩ = some (.int .i64 0) := (blk_cell BK394.out 0).trans rfl; have hcz24_1 : w22.cell? ⟨gb394, 1, none⟩ = some (.int .i64 0) := (blk_cell BK394.out 1).trans rfl; have hcz24_2 : w22.cell? ⟨gb394, 2, none⟩ = some (.bool false) := (blk_cell BK394.out 2).trans rfl; have hcz24_3 : w22.cell? ⟨gb394, 3, none⟩ = some (.bool false) := (blk_cell BK394.out 3).trans rfl; have hcz24_4 : w22.cell? ⟨gb394, 4, none⟩ = some (.int .i64 0) := (blk_cell BK394.out 4).trans rfl; have hcz24_5 : w22.cell? ⟨gb394, 5, none⟩ = some (.int .i64 0) := (blk_cell BK394.out 5).trans rfl; have hcz24_6 : w22.cell? ⟨gb394, 6, none⟩ = some (.int .i64 0) := (blk_cell BK394.out 6).trans rfl; have hcz24_7 : w22.cell? ⟨gb394, 7, none⟩ = some (.int .u32 0) := (blk_cell BK394.out 7).trans rfl; have hcz24_8 : w22.cell? ⟨gb394, 8, none⟩ = some (.int .u32 0) := (blk_cell BK394.out 8).trans rfl; have hcz24_9 : w22.cell? ⟨gb394, 9, none⟩ = some (.string (⟨#[]⟩ : ByteArray)) := (blk_cell BK394.out 9).trans rfl; have hfz24_0 := blk_frozen BK394.out 0; have hfz24_1 := blk_frozen BK394.out 1; have hfz24_2 := blk_frozen BK394.out 2; have hfz24_3 := blk_frozen BK394.out 3; have hfz24_4 := blk_frozen BK394.out 4; have hfz24_5 := blk_frozen BK394.out 5; have hfz24_6 := blk_frozen BK394.out 6; have hfz24_7 := blk_frozen BK394.out 7; have hfz24_8 := blk_frozen BK394.out 8; have hfz24_9 := blk_frozen BK394.out 9; have hcz25_0 : w22.cell? ⟨gb370, 0, none⟩ = some (.int .i64 t371) := (blk_cell BK370.out 0).trans rfl; have hcz25_1 : w22.cell? ⟨gb370, 1, none⟩ = some (.int .i64 t372) := (blk_cell BK370.out 1).trans rfl; have hcz25_2 : w22.cell? ⟨gb370, 2, none⟩ = some (.bool t373) := (blk_cell BK370.out 2).trans rfl; have hcz25_3 : w22.cell? ⟨gb370, 3, none⟩ = some (.bool t374) := (blk_cell BK370.out 3).trans rfl; have hcz25_4 : w22.cell? ⟨gb370, 4, none⟩ = some (.int .i64 t375) := (blk_cell BK370.out 4).trans rfl; have hcz25_5 : w22.cell? ⟨gb370, 5, none⟩ = some (.int .i64 t376) := (blk_cell BK370.out 5).trans rfl; have hcz25_6 : w22.cell? ⟨gb370, 6, none⟩ = some (.int .i64 t377) := (blk_cell BK370.out 6).trans rfl; have hcz25_7 : w22.cell? ⟨gb370, 7, none⟩ = some (.int .u32 t378) := (blk_cell BK370.out 7).trans rfl; have hcz25_8 : w22.cell? ⟨gb370, 8, none⟩ = some (.int .u32 t379) := (blk_cell BK370.out 8).trans rfl; have hcz25_9 : w22.cell? ⟨gb370, 9, none⟩ = some (.string t380) := (blk_cell BK370.out 9).trans rfl; have hfz25_0 := blk_frozen BK370.out 0; have hfz25_1 := blk_frozen BK370.out 1; have hfz25_2 := blk_frozen BK370.out 2; have hfz25_3 := blk_frozen BK370.out 3; have hfz25_4 := blk_frozen BK370.out 4; have hfz25_5 := blk_frozen BK370.out 5; have hfz25_6 := blk_frozen BK370.out 6; have hfz25_7 := blk_frozen BK370.out 7; have hfz25_8 := blk_frozen BK370.out 8; have hfz25_9 := blk_frozen BK370.out 9))
        go_meet
        case rel => exact ⟨_, H', ⟨by have := HJ3.out; first | omega | exact Nat.le_refl _⟩, ⟨by (with_reducible repeat (first | refine blk_drewN ?_ _ | refine blk_drew ?_ | refine blk_alloc ?_ _)); refine blk_far ?_ NB370_394.out _; (with_reducible repeat (first | refine blk_drewN ?_ _ | refine blk_drew ?_ | refine blk_alloc ?_ _)); refine blk_far ?_ NB370_394.out _; (with_reducible repeat (first | refine blk_drewN ?_ _ | refine blk_drew ?_ | refine blk_alloc ?_ _)); refine blk_far ?_ NB370_394.out _; (with_reducible repeat (first | refine blk_drewN ?_ _ | refine blk_drew ?_ | refine blk_alloc ?_ _)); refine blk_far ?_ NB370_394.out _; (with_reducible repeat (first | refine blk_drewN ?_ _ | refine blk_drew ?_ | refine blk_alloc ?_ _)); refine blk_far ?_ NB370_394.out _; (with_reducible repeat (first | refine blk_drewN ?_ _ | refine blk_drew ?_ | refine blk_alloc ?_ _)); refine blk_far ?_ NB370_394.out _; (with_reducible repeat (first | refine blk_drewN ?_ _ | refine blk_drew ?_ | refine blk_alloc ?_ _)); refine blk_far ?_ NB370_394.out _; (with_reducible repeat (first | refine blk_drewN ?_ _ | refine blk_drew ?_ | refine blk_alloc ?_ _)); refine blk_far ?_ NB370_394.out _; (with_reducible repeat (first | refine blk_drewN ?_ _ | refine blk_drew ?_ | refine blk_alloc ?_ _)); refine blk_far ?_ NB370_394.out _; (with_reducible repeat (first | refine blk_drewN ?_ _ | refine blk_drew ?_ | refine blk_alloc ?_ _)); refine blk_far ?_ NB370_394.out _; (with_reducible repeat (first | refine blk_drewN ?_ _ | refine blk_drew ?_ | refine blk_alloc ?_ _)); exact BK370.out⟩, ⟨by repeat (first | (with_reducible first | exact HB.out | apply below_alloc | apply pw_below_drewN | apply below_drew1 | refine below_set ?_ GE370.out | refine below_set ?_ GE394.out) | exact HB.out)⟩⟩
      ·rw [if_neg c19] at H
       exact absurd H (by simp)
     ·rw [if_neg c17] at H
      exact absurd H (by simp)
    ·rw [if_neg c16] at H
     have c16b0 : (t382 == 0) = false := beq_eq_false_iff_ne.mpr c16
     have c16b1 : (t382 != 0) = true := bne_iff_ne.mpr c16
     (first | rw [c16b0] | (simp only [i64_w, i32_w]; rw [c16b0]) | skip)
     have H' := Aside0.mk H
     clear H
     go_wp2
     go_meet
     case rel => exact ⟨_, H', ⟨by have := HJ3.out; first | omega | exact Nat.le_refl _⟩, ⟨by (with_reducible repeat (first | refine blk_drewN ?_ _ | refine blk_drew ?_ | refine blk_alloc ?_ _)); exact BK370.out⟩, ⟨by repeat (first | (with_reducible first | exact HB.out | apply below_alloc | apply pw_below_drewN | apply below_drew1 | refine below_set ?_ GE370.out) | exact HB.out)⟩⟩
   case rest =>
    clear HC13
    try clear c1
    try clear c2
    try clear p2
    try clear c5
    try clear c9
    try clear c10
    try clear c10b0
    try clear c10b1
    try clear c11
    try clear c11b0
    try clear c11b1
    try clear c16
    try clear c16b0
    try clear c16b1
    try clear c17
    try clear c17b0
    try clear c17b1
    try clear c17b2
    try clear c19
    try clear c19b0
    try clear c19b1
    try clear c20
    try clear c20b0
    try clear c23
    try clear hcz14_0
    try clear hcz14_1
    try clear hcz14_2
    try clear hcz14_3
    try clear hcz14_4
    try clear hcz14_5
    try clear hcz14_6
    try clear hcz14_7
    try clear hcz14_8
    try clear hcz14_9
    try clear hcz24_0
    try clear hcz24_1
    try clear hcz24_2
    try clear hcz24_3
    try clear hcz24_4
    try clear hcz24_5
    try clear hcz24_6
    try clear hcz24_7
    try clear hcz24_8
    try clear hcz24_9
    try clear hcz25_0
    try clear hcz25_1
    try clear hcz25_2
    try clear hcz25_3
    try clear hcz25_4
    try clear hcz25_5
    try clear hcz25_6
    try clear hcz25_7
    try clear hcz25_8
    try clear hcz25_9
    try clear hcz6_0
    try clear hcz6_1
    try clear hcz6_2
    try clear hcz6_3
    try clear hcz6_4
    try clear hcz6_5
    try clear hcz6_6
    try clear hcz6_7
    try clear hcz6_8
    try clear hcz6_9
    try clear hcz8_0
    try clear hcz8_1
    try clear hcz8_2
    try clear hcz8_3
    try clear hcz8_4
    try clear hcz8_5
    try clear hcz8_6
    try clear hcz8_7
    try clear hcz8_8
    try clear hcz8_9
    try clear hfz14_0
    try clear hfz14_1
    try clear hfz14_2
    try clear hfz14_3
    try clear hfz14_4
    try clear hfz14_5
    try clear hfz14_6
    try clear hfz14_7
    try clear hfz14_8
    try clear hfz14_9
    try clear hfz24_0
    try clear hfz24_1
    try clear hfz24_2
    try clear hfz24_3
    try clear hfz24_4
    try clear hfz24_5
    try clear hfz24_6
    try clear hfz24_7
    try clear hfz24_8
    try clear hfz24_9
    try clear hfz25_0
    try clear hfz25_1
    try clear hfz25_2
    try clear hfz25_3
    try clear hfz25_4
    try clear hfz25_5
    try clear hfz25_6
    try clear hfz25_7
    try clear hfz25_8
    try clear hfz25_9
    try clear hfz6_0
    try clear hfz6_1
    try clear hfz6_2
    try clear hfz6_3
    try clear hfz6_4
    try clear hfz6_5
    try clear hfz6_6
    try clear hfz6_7
    try clear hfz6_8
    try clear hfz6_9
    try clear hfz8_0
    try clear hfz8_1
    try clear hfz8_2
    try clear hfz8_3
    try clear hfz8_4
    try clear hfz8_5
    try clear hfz8_6
    try clear hfz8_7
    try clear hfz8_8
    try clear hfz8_9
    try clear p2
    obtain ⟨kq, HA, HJ12, BK370, HB⟩ := hcut
    cases kq with
    | zero => exact absurd HA.out (by simp [gangwaylaw06_InetBack.j1])
    | succ kj12 =>
     have H := HA.out
     clear HA
     simp only [gangwaylaw06_InetBack.j1] at H
     replace H := Option.bind_eq_some_iff.mp H
     obtain ⟨⟨t395, t396, t397, t398, t399, t400, t401, t402, t403, t404, t405⟩, A260, H⟩ := H
     replace H : (if t405 = 0 then ((inet_Build.f kj12 t395 t396 t397 t398 t399 t400 t401 t402 t403 t404).bind fun bt408 => (if bt408.2 = 0 then (if (bt408.1.size : Int) > (x1_3.size : Int) then (none) else (if (bt408.1.size : Int) < 20 then (none) else (if 10 ≤ 12 then (if 12 ≤ (bt408.1.size : Int) then (if 12 ≤ (x1_3.size : Int) then (if (bt408.1.extract 10 12).toList = (x1_3.extract 10 12).toList then (if 0 ≤ 10 then (if 10 ≤ (bt408.1.size : Int) then (if 10 ≤ (x1_3.size : Int) then (if (bt408.1.extract 0 10).toList = (x1_3.extract 0 10).toList then (if (bt408.1.size : Int) ≤ (x1_3.size : Int) then (if (bt408.1.extract 12 bt408.1.size).toList = (x1_3.extract 12 ((bt408.1.size : Int) : Int).toNat).toList then ((gangwaylaw06_fixed.f kj12).bind fun t410 => (some t410)) else (none)) else (none)) else (none)) else (none)) else (none)) else (none)) else (if (bt408.1.extract 10 12).toList = ([0, 0] : List UInt8) then (if (x1_3.extract 10 12).toList = ([255, 255] : List UInt8) then (if 0 ≤ 10 then (if 10 ≤ (bt408.1.size : Int) then (if 10 ≤ (x1_3.size : Int) then (if (bt408.1.extract 0 10).toList = (x1_3.extract 0 10).toList then (if (bt408.1.size : Int) ≤ (x1_3.size : Int) then (if (bt408.1.extract 12 bt408.1.size).toList = (x1_3.extract 12 ((bt408.1.size : Int) : Int).toNat).toList then ((gangwaylaw06_fixed.f kj12).bind fun t411 => (some t411)) else (none)) else (none)) else (none)) else (none)) else (none)) else (none)) else (none)) else (none))) else (none)) else (none)) else (none)))) else (none))) else (if (t395 == 0 && (t396 == 0 && (!t397 && (!t398 && (t399 == 0 && (t400 == 0 && (t401 == 0 && (t402 == 0 && (t403 == 0 && (t404.toList == ([] : List UInt8))))))))))) = true then ((gangwaylaw06_fixed.f kj12).bind fun t407 => (some t407)) else (none))) = some r := H
     have A26 := Aside0.mk A260
     clear A260
     by_cases c27 : t405 = 0
     ·rw [if_pos c27] at H
      have c27b0 : (t405 == 0) = true := beq_iff_eq.mpr c27
      have c27b1 : (t405 != 0) = false := bne_eq_false_iff_eq.mpr c27
      clear c27
      replace H := Option.bind_eq_some_iff.mp H
      obtain ⟨⟨t408, t409⟩, A280, H⟩ := H
      replace H : (if t409 = 0 then (if (t408.size : Int) > (x1_3.size : Int) then (none) else (if (t408.size : Int) < 20 then (none) else (if 10 ≤ 12 then (if 12 ≤ (t408.size : Int) then (if 12 ≤ (x1_3.size : Int) then (if (t408.extract 10 12).toList = (x1_3.extract 10 12).toList then (if 0 ≤ 10 then (if 10 ≤ (t408.size : Int) then (if 10 ≤ (x1_3.size : Int) then (if (t408.extract 0 10).toList = (x1_3.extract 0 10).toList then (if (t408.size : Int) ≤ (x1_3.size : Int) then (if (t408.extract 12 t408.size).toList = (x1_3.extract 12 ((t408.size : Int) : Int).toNat).toList then ((gangwaylaw06_fixed.f kj12).bind fun t410 => (some t410)) else (none)) else (none)) else (none)) else (none)) else (none)) else (none)) else (if (t408.extract 10 12).toList = ([0, 0] : List UInt8) then (if (x1_3.extract 10 12).toList = ([255, 255] : List UInt8) then (if 0 ≤ 10 then (if 10 ≤ (t408.size : Int) then (if 10 ≤ (x1_3.size : Int) then (if (t408.extract 0 10).toList = (x1_3.extract 0 10).toList then (if (t408.size : Int) ≤ (x1_3.size : Int) then (if (t408.extract 12 t408.size).toList = (x1_3.extract 12 ((t408.size : Int) : Int).toNat).toList then ((gangwaylaw06_fixed.f kj12).bind fun t411 => (some t411)) else (none)) else (none)) else (none)) else (none)) else (none)) else (none)) else (none)) else (none))) else (none)) else (none)) else (none)))) else (none)) = some r := H
      have A28 := Aside0.mk A280
      clear A280
      by_cases c29 : t409 = 0
      ·rw [if_pos c29] at H
       have c29b0 : (t409 == 0) = true := beq_iff_eq.mpr c29
       have c29b1 : (t409 != 0) = false := bne_eq_false_iff_eq.mpr c29
       clear c29
       by_cases c30 : (t408.size : Int) > (x1_3.size : Int)
       ·rw [if_pos c30] at H
        exact absurd H (by simp)
       ·rw [if_neg c30] at H
        have c30b0 : decide ((x1_3.size : Int) < (t408.size : Int)) = false := decide_eq_false c30
        have c30b1 : decide (x1_3.size < t408.size) = false := decide_eq_false (fun h => c30 (Int.ofNat_lt.mpr h))
        clear c30
        by_cases c31 : (t408.size : Int) < 20
        ·rw [if_pos c31] at H
         exact absurd H (by simp)
        ·rw [if_neg c31] at H
         have c31b0 : decide ((t408.size : Int) < 20) = false := decide_eq_false c31
         have c31b1 : decide (t408.size < 20) = false := decide_eq_false (by omega)
         clear c31
         by_cases c32 : 10 ≤ 12
         ·rw [if_pos c32] at H
          have c32b0 := eq_true c32
          have c32b1 : decide (10 ≤ 12) = true := decide_eq_true c32
          clear c32
          by_cases c33 : 12 ≤ (t408.size : Int)
          ·rw [if_pos c33] at H
           have c33b0 := eq_true c33
           have c33b1 : decide (12 ≤ (t408.size : Int)) = true := decide_eq_true c33
           clear c33
           have c34b0 := eq_true (of_decide_eq_true (by first | (with_reducible assumption) | assumption) : 10 ≤ 12)
           by_cases c35 : 12 ≤ (x1_3.size : Int)
           ·rw [if_pos c35] at H
            have c35b0 := eq_true c35
            have c35b1 : decide (12 ≤ (x1_3.size : Int)) = true := decide_eq_true c35
            clear c35
            by_cases c36 : (t408.extract 10 12).toList = (x1_3.extract 10 12).toList
            ·rw [if_pos c36] at H
             have c36b0 : ((t408.extract 10 12).toList == (x1_3.extract 10 12).toList) = true := beq_iff_eq.mpr c36
             have c36b1 : ((t408.extract 10 12).toList != (x1_3.extract 10 12).toList) = false := bne_eq_false_iff_eq.mpr c36
             clear c36
             by_cases c37 : 0 ≤ 10
             ·rw [if_pos c37] at H
              have c37b0 := eq_true c37
              have c37b1 : decide (0 ≤ 10) = true := decide_eq_true c37
              clear c37
              by_cases c38 : 10 ≤ (t408.size : Int)
              ·rw [if_pos c38] at H
               have c38b0 := eq_true c38
               have c38b1 : decide (10 ≤ (t408.size : Int)) = true := decide_eq_true c38
               clear c38
               have c39b0 := eq_true (of_decide_eq_true (by first | (with_reducible assumption) | assumption) : 0 ≤ 10)
               by_cases c40 : 10 ≤ (x1_3.size : Int)
               ·rw [if_pos c40] at H
                have c40b0 := eq_true c40
                have c40b1 : decide (10 ≤ (x1_3.size : Int)) = true := decide_eq_true c40
                clear c40
                by_cases c41 : (t408.extract 0 10).toList = (x1_3.extract 0 10).toList
                ·rw [if_pos c41] at H
                 have c41b0 : ((t408.extract 0 10).toList == (x1_3.extract 0 10).toList) = true := beq_iff_eq.mpr c41
                 have c41b1 : ((t408.extract 0 10).toList != (x1_3.extract 0 10).toList) = false := bne_eq_false_iff_eq.mpr c41
                 clear c41
                 have c42b0 := eq_true (of_decide_eq_true (by first | (with_reducible assumption) | assumption) : 12 ≤ (t408.size : Int))
                 have c43b0 := eq_true (of_decide_eq_true (by first | (with_reducible assumption) | assumption) : 12 ≤ (t408.size : Int))
                 by_cases c44 : (t408.size : Int) ≤ (x1_3.size : Int)
                 ·rw [if_pos c44] at H
                  have c44b0 := eq_true c44
                  have c44b1 : decide ((t408.size : Int) ≤ (x1_3.size : Int)) = true := decide_eq_true c44
                  clear c44
                  by_cases c45 : (t408.extract 12 t408.size).toList = (x1_3.extract 12 ((t408.size : Int) : Int).toNat).toList
                  ·rw [if_pos c45] at H
                   have c45b0 : ((t408.extract 12 t408.size).toList == (x1_3.extract 12 ((t408.size : Int) : Int).toNat).toList) = true := beq_iff_eq.mpr c45
                   have c45q0 : ((t408.extract 12 t408.size).toList == (x1_3.extract 12 t408.size).toList) = true := c45b0
                   have c45q1 : ((t408.extract 12 t408.size).toList = (x1_3.extract 12 t408.size).toList) = True := eq_true (beq_iff_eq.mp c45q0)
                   have c45b1 : ((t408.extract 12 t408.size).toList != (x1_3.extract 12 ((t408.size : Int) : Int).toNat).toList) = false := bne_eq_false_iff_eq.mpr c45
                   clear c45
                   replace H := Option.bind_eq_some_iff.mp H
                   obtain ⟨t410, A460, H⟩ := H
                   replace H : (some t410) = some r := H
                   have A46 := Aside0.mk A460
                   clear A460
                   obtain rfl := Option.some.inj H
                   try go_wp2_with (first | ((with_reducible refine gate_callee (f := 16) rfl ?_); refine goesL_ (some 44) rfl rfl Tryd.func16 (by kernel_rfl) rfl #[.string x1_3] rfl (by (try simp only [List.map_toArray, List.map_cons, List.map_nil]); first | done | rfl | (simp only [List.length_drop, List.length_take]; rfl)) ?_; (with_reducible refine (inet_Parse.calls kj12 x1_3 t395 t396 t397 t398 t399 t400 t401 t402 t403 t404 t405 _ ?sideL A26.out).mono ?_); (case sideL => exact laid_below HLD.out (by repeat (first | (with_reducible first | exact HB.out | apply below_alloc | apply pw_below_drewN | apply below_drew1 | refine below_set ?_ GE370.out) | exact HB.out))); rintro e w47 ⟨rfl, hb⟩; refine ⟨_, rfl, ?_⟩; have n0_ := Aside0.mk (blk_below (g := gb370) (o := .cells #[.int .i64 t371, .int .i64 t372, .bool t373, .bool t374, .int .i64 t375, .int .i64 t376, .int .i64 t377, .int .u32 t378, .int .u32 t379, .string t380] 24 (0, 0)) (by (with_reducible repeat (first | refine blk_drewN ?_ _ | refine blk_drew ?_ | refine blk_alloc ?_ _)); exact BK370.out) hb); have n1_ := Aside0.mk (below_step (by repeat (first | (with_reducible first | exact HB.out | apply below_alloc | apply pw_below_drewN | apply below_drew1 | refine below_set ?_ GE370.out) | exact HB.out)) hb); clear BK370; clear HB; have BK370 := n0_; have HB := n1_; clear n0_ n1_; have hcy1_370_0 := (show World.cell? _ ⟨gb370, 0, none⟩ = some (.int .i64 t371) from (blk_cell BK370.out 0).trans rfl); have hcy1_370_1 := (show World.cell? _ ⟨gb370, 1, none⟩ = some (.int .i64 t372) from (blk_cell BK370.out 1).trans rfl); have hcy1_370_2 := (show World.cell? _ ⟨gb370, 2, none⟩ = some (.bool t373) from (blk_cell BK370.out 2).trans rfl); have hcy1_370_3 := (show World.cell? _ ⟨gb370, 3, none⟩ = some (.bool t374) from (blk_cell BK370.out 3).trans rfl); have hcy1_370_4 := (show World.cell? _ ⟨gb370, 4, none⟩ = some (.int .i64 t375) from (blk_cell BK370.out 4).trans rfl); have hcy1_370_5 := (show World.cell? _ ⟨gb370, 5, none⟩ = some (.int .i64 t376) from (blk_cell BK370.out 5).trans rfl); have hcy1_370_6 := (show World.cell? _ ⟨gb370, 6, none⟩ = some (.int .i64 t377) from (blk_cell BK370.out 6).trans rfl); have hcy1_370_7 := (show World.cell? _ ⟨gb370, 7, none⟩ = some (.int .u32 t378) from (blk_cell BK370.out 7).trans rfl); have hcy1_370_8 := (show World.cell? _ ⟨gb370, 8, none⟩ = some (.int .u32 t379) from (blk_cell BK370.out 8).trans rfl); have hcy1_370_9 := (show World.cell? _ ⟨gb370, 9, none⟩ = some (.string t380) from (blk_cell BK370.out 9).trans rfl); (try clear hb); (try clear hb2); (try clear hk); (try clear hi)) | ((with_reducible refine gate_dst (N := 9) rfl ?_); (try (refine gate_guard (by rfl) ?_; dsimp only)); refine box_event ?hg (N := 9) ?hd (cs := #[.int .i64 0, .int .i64 0, .bool false, .bool false, .int .i64 0, .int .i64 0, .int .i64 0, .int .u32 0, .int .u32 0, .string (⟨#[]⟩ : ByteArray)]) (t := 24) ?hr ?_; (case hd => rfl); (case hg => rfl); (case hr => first | (go_simp; done) | (go_simp; rfl)); intro gb406 hg w48 hbox hb; have n0_ := Aside0.mk (blk_below (g := gb370) (o := .cells #[.int .i64 t371, .int .i64 t372, .bool t373, .bool t374, .int .i64 t375, .int .i64 t376, .int .i64 t377, .int .u32 t378, .int .u32 t379, .string t380] 24 (0, 0)) (by (with_reducible repeat (first | refine blk_drewN ?_ _ | refine blk_drew ?_ | refine blk_alloc ?_ _)); exact BK370.out) hb); have n1_ := Aside0.mk (below_step (by repeat (first | (with_reducible first | exact HB.out | apply below_alloc | apply pw_below_drewN | apply below_drew1 | refine below_set ?_ GE370.out) | exact HB.out)) hb); have n2_ := Aside0.mk (hbox); have n3_ := Aside0.mk ((by rw [hg]; exact (below_size (by repeat (first | (with_reducible first | exact HB.out | apply below_alloc | apply pw_below_drewN | apply below_drew1 | refine below_set ?_ GE370.out) | exact HB.out))) : w.heap.size ≤ gb406)); have n4_ := Aside0.mk ((by rw [hg]; exact (below_size (by repeat (first | (with_reducible first | exact HB.out | apply below_alloc | apply pw_below_drewN | apply below_drew1 | refine below_set ?_ GE370.out) | exact HB.out))) : w.heap.size ≤ gb406)); have n5_ := Aside0.mk ((by rw [hg]; exact Nat.ne_of_lt (blk_lt (g := gb370) (o := .cells #[.int .i64 t371, .int .i64 t372, .bool t373, .bool t374, .int .i64 t375, .int .i64 t376, .int .i64 t377, .int .u32 t378, .int .u32 t379, .string t380] 24 (0, 0)) (by (with_reducible repeat (first | refine blk_drewN ?_ _ | refine blk_drew ?_ | refine blk_alloc ?_ _)); exact BK370.out)) : gb370 ≠ gb406)); have n6_ := Aside0.mk ((by rw [hg]; exact Nat.ne_of_gt (blk_lt (g := gb370) (o := .cells #[.int .i64 t371, .int .i64 t372, .bool t373, .bool t374, .int .i64 t375, .int .i64 t376, .int .i64 t377, .int .u32 t378, .int .u32 t379, .string t380] 24 (0, 0)) (by (with_reducible repeat (first | refine blk_drewN ?_ _ | refine blk_drew ?_ | refine blk_alloc ?_ _)); exact BK370.out)) : gb406 ≠ gb370)); clear BK370; clear HB; have BK370 := n0_; have HB := n1_; have BK406 := n2_; have GW406 := n3_; have GE406 := n4_; have NB370_406 := n5_; have NB406_370 := n6_; clear n0_ n1_ n2_ n3_ n4_ n5_ n6_; have hcy2_370_0 := (show World.cell? _ ⟨gb370, 0, none⟩ = some (.int .i64 t371) from (blk_cell BK370.out 0).trans rfl); have hcy2_370_1 := (show World.cell? _ ⟨gb370, 1, none⟩ = some (.int .i64 t372) from (blk_cell BK370.out 1).trans rfl); have hcy2_370_2 := (show World.cell? _ ⟨gb370, 2, none⟩ = some (.bool t373) from (blk_cell BK370.out 2).trans rfl); have hcy2_370_3 := (show World.cell? _ ⟨gb370, 3, none⟩ = some (.bool t374) from (blk_cell BK370.out 3).trans rfl); have hcy2_370_4 := (show World.cell? _ ⟨gb370, 4, none⟩ = some (.int .i64 t375) from (blk_cell BK370.out 4).trans rfl); have hcy2_370_5 := (show World.cell? _ ⟨gb370, 5, none⟩ = some (.int .i64 t376) from (blk_cell BK370.out 5).trans rfl); have hcy2_370_6 := (show World.cell? _ ⟨gb370, 6, none⟩ = some (.int .i64 t377) from (blk_cell BK370.out 6).trans rfl); have hcy2_370_7 := (show World.cell? _ ⟨gb370, 7, none⟩ = some (.int .u32 t378) from (blk_cell BK370.out 7).trans rfl); have hcy2_370_8 := (show World.cell? _ ⟨gb370, 8, none⟩ = some (.int .u32 t379) from (blk_cell BK370.out 8).trans rfl); have hcy2_370_9 := (show World.cell? _ ⟨gb370, 9, none⟩ = some (.string t380) from (blk_cell BK370.out 9).trans rfl); clear hb hbox hg; have hnb49 := NB406_370.out; have hnc49 := NB370_406.out; have hcz50_0 : w48.cell? ⟨gb406, 0, none⟩ = some (.int .i64 0) := (blk_cell BK406.out 0).trans rfl; have hcz50_1 : w48.cell? ⟨gb406, 1, none⟩ = some (.int .i64 0) := (blk_cell BK406.out 1).trans rfl; have hcz50_2 : w48.cell? ⟨gb406, 2, none⟩ = some (.bool false) := (blk_cell BK406.out 2).trans rfl; have hcz50_3 : w48.cell? ⟨gb406, 3, none⟩ = some (.bool false) := (blk_cell BK406.out 3).trans rfl; have hcz50_4 : w48.cell? ⟨gb406, 4, none⟩ = some (.int .i64 0) := (blk_cell BK406.out 4).trans rfl; have hcz50_5 : w48.cell? ⟨gb406, 5, none⟩ = some (.int .i64 0) := (blk_cell BK406.out 5).trans rfl; have hcz50_6 : w48.cell? ⟨gb406, 6, none⟩ = some (.int .i64 0) := (blk_cell BK406.out 6).trans rfl; have hcz50_7 : w48.cell? ⟨gb406, 7, none⟩ = some (.int .u32 0) := (blk_cell BK406.out 7).trans rfl; have hcz50_8 : w48.cell? ⟨gb406, 8, none⟩ = some (.int .u32 0) := (blk_cell BK406.out 8).trans rfl; have hcz50_9 : w48.cell? ⟨gb406, 9, none⟩ = some (.string (⟨#[]⟩ : ByteArray)) := (blk_cell BK406.out 9).trans rfl; have hfz50_0 := blk_frozen BK406.out 0; have hfz50_1 := blk_frozen BK406.out 1; have hfz50_2 := blk_frozen BK406.out 2; have hfz50_3 := blk_frozen BK406.out 3; have hfz50_4 := blk_frozen BK406.out 4; have hfz50_5 := blk_frozen BK406.out 5; have hfz50_6 := blk_frozen BK406.out 6; have hfz50_7 := blk_frozen BK406.out 7; have hfz50_8 := blk_frozen BK406.out 8; have hfz50_9 := blk_frozen BK406.out 9) | (obtain ⟨w48f, hgw_⟩ : ∃ y, y = (World.setCell (World.setCell (World.setCell (World.setCell w48 ⟨gb406, 0, none⟩ (.int .i64 t395)) ⟨gb406, 1, none⟩ (.int .i64 t396)) ⟨gb406, 2, none⟩ (.bool t397)) ⟨gb406, 3, none⟩ (.bool t398)) := ⟨_, rfl⟩; rw [← hgw_]; have m0_ := Aside0.mk (show w48f.heap[gb370]? = some (.cells #[.int .i64 t371, .int .i64 t372, .bool t373, .bool t374, .int .i64 t375, .int .i64 t376, .int .i64 t377, .int .u32 t378, .int .u32 t379, .string t380] 24 (0, 0)) from (by rw [hgw_]; refine blk_far ?_ NB370_406.out _; (with_reducible repeat (first | refine blk_drewN ?_ _ | refine blk_drew ?_ | refine blk_alloc ?_ _)); refine blk_far ?_ NB370_406.out _; (with_reducible repeat (first | refine blk_drewN ?_ _ | refine blk_drew ?_ | refine blk_alloc ?_ _)); refine blk_far ?_ NB370_406.out _; (with_reducible repeat (first | refine blk_drewN ?_ _ | refine blk_drew ?_ | refine blk_alloc ?_ _)); refine blk_far ?_ NB370_406.out _; (with_reducible repeat (first | refine blk_drewN ?_ _ | refine blk_drew ?_ | refine blk_alloc ?_ _)); exact BK370.out)); have m1_ := Aside0.mk (show w48f.heap[gb406]? = some (.cells #[.int .i64 t395, .int .i64 t396, .bool t397, .bool t398, .int .i64 0, .int .i64 0, .int .i64 0, .int .u32 0, .int .u32 0, .string (⟨#[]⟩ : ByteArray)] 24 (0, 0)) from (by rw [hgw_]; refine blk_put (cs := #[.int .i64 t395, .int .i64 t396, .bool t397, .bool false, .int .i64 0, .int .i64 0, .int .i64 0, .int .u32 0, .int .u32 0, .string (⟨#[]⟩ : ByteArray)]) ?_ 3 _ rfl; (with_reducible repeat (first | refine blk_drewN ?_ _ | refine blk_drew ?_ | refine blk_alloc ?_ _)); refine blk_put (cs := #[.int .i64 t395, .int .i64 t396, .bool false, .bool false, .int .i64 0, .int .i64 0, .int .i64 0, .int .u32 0, .int .u32 0, .string (⟨#[]⟩ : ByteArray)]) ?_ 2 _ rfl; (with_reducible repeat (first | refine blk_drewN ?_ _ | refine blk_drew ?_ | refine blk_alloc ?_ _)); refine blk_put (cs := #[.int .i64 t395, .int .i64 0, .bool false, .bool false, .int .i64 0, .int .i64 0, .int .i64 0, .int .u32 0, .int .u32 0, .string (⟨#[]⟩ : ByteArray)]) ?_ 1 _ rfl; (with_reducible repeat (first | refine blk_drewN ?_ _ | refine blk_drew ?_ | refine blk_alloc ?_ _)); refine blk_put (cs := #[.int .i64 0, .int .i64 0, .bool false, .bool false, .int .i64 0, .int .i64 0, .int .i64 0, .int .u32 0, .int .u32 0, .string (⟨#[]⟩ : ByteArray)]) ?_ 0 _ rfl; (with_reducible repeat (first | refine blk_drewN ?_ _ | refine blk_drew ?_ | refine blk_alloc ?_ _)); exact BK406.out)); have mb_ := Aside0.mk (show Below w.heap.size w w48f from (by rw [hgw_]; exact (by repeat (first | (with_reducible first | exact HB.out | apply below_alloc | apply pw_below_drewN | apply below_drew1 | refine below_set ?_ GE370.out | refine below_set ?_ GE406.out) | exact HB.out)))); clear BK370; have BK370 := m0_; clear m0_; clear BK406; have BK406 := m1_; clear m1_; clear HB; have HB := mb_; clear mb_; clear hgw_; have hcf370_0 : w48f.cell? ⟨gb370, 0, none⟩ = some (.int .i64 t371) := (blk_cell BK370.out 0).trans rfl; have hcf370_1 : w48f.cell? ⟨gb370, 1, none⟩ = some (.int .i64 t372) := (blk_cell BK370.out 1).trans rfl; have hcf370_2 : w48f.cell? ⟨gb370, 2, none⟩ = some (.bool t373) := (blk_cell BK370.out 2).trans rfl; have hcf370_3 : w48f.cell? ⟨gb370, 3, none⟩ = some (.bool t374) := (blk_cell BK370.out 3).trans rfl; have hcf370_4 : w48f.cell? ⟨gb370, 4, none⟩ = some (.int .i64 t375) := (blk_cell BK370.out 4).trans rfl; have hcf370_5 : w48f.cell? ⟨gb370, 5, none⟩ = some (.int .i64 t376) := (blk_cell BK370.out 5).trans rfl; have hcf370_6 : w48f.cell? ⟨gb370, 6, none⟩ = some (.int .i64 t377) := (blk_cell BK370.out 6).trans rfl; have hcf370_7 : w48f.cell? ⟨gb370, 7, none⟩ = some (.int .u32 t378) := (blk_cell BK370.out 7).trans rfl; have hcf370_8 : w48f.cell? ⟨gb370, 8, none⟩ = some (.int .u32 t379) := (blk_cell BK370.out 8).trans rfl; have hcf370_9 : w48f.cell? ⟨gb370, 9, none⟩ = some (.string t380) := (blk_cell BK370.out 9).trans rfl; have hff370_0 := blk_frozen BK370.out 0; have hff370_1 := blk_frozen BK370.out 1; have hff370_2 := blk_frozen BK370.out 2; have hff370_3 := blk_frozen BK370.out 3; have hff370_4 := blk_frozen BK370.out 4; have hff370_5 := blk_frozen BK370.out 5; have hff370_6 := blk_frozen BK370.out 6; have hff370_7 := blk_frozen BK370.out 7; have hff370_8 := blk_frozen BK370.out 8; have hff370_9 := blk_frozen BK370.out 9; have hcf406_0 : w48f.cell? ⟨gb406, 0, none⟩ = some (.int .i64 t395) := (blk_cell BK406.out 0).trans rfl; have hcf406_1 : w48f.cell? ⟨gb406, 1, none⟩ = some (.int .i64 t396) := (blk_cell BK406.out 1).trans rfl; have hcf406_2 : w48f.cell? ⟨gb406, 2, none⟩ = some (.bool t397) := (blk_cell BK406.out 2).trans rfl; have hcf406_3 : w48f.cell? ⟨gb406, 3, none⟩ = some (.bool t398) := (blk_cell BK406.out 3).trans rfl; have hcf406_4 : w48f.cell? ⟨gb406, 4, none⟩ = some (.int .i64 0) := (blk_cell BK406.out 4).trans rfl; have hcf406_5 : w48f.cell? ⟨gb406, 5, none⟩ = some (.int .i64 0) := (blk_cell BK406.out 5).trans rfl; have hcf406_6 : w48f.cell? ⟨gb406, 6, none⟩ = some (.int .i64 0) := (blk_cell BK406.out 6).trans rfl; have hcf406_7 : w48f.cell? ⟨gb406, 7, none⟩ = some (.int .u32 0) := (blk_cell BK406.out 7).trans rfl; have hcf406_8 : w48f.cell? ⟨gb406, 8, none⟩ = some (.int .u32 0) := (blk_cell BK406.out 8).trans rfl; have hcf406_9 : w48f.cell? ⟨gb406, 9, none⟩ = some (.string (⟨#[]⟩ : ByteArray)) := (blk_cell BK406.out 9).trans rfl; have hff406_0 := blk_frozen BK406.out 0; have hff406_1 := blk_frozen BK406.out 1; have hff406_2 := blk_frozen BK406.out 2; have hff406_3 := blk_frozen BK406.out 3; have hff406_4 := blk_frozen BK406.out 4; have hff406_5 := blk_frozen BK406.out 5; have hff406_6 := blk_frozen BK406.out 6; have hff406_7 := blk_frozen BK406.out 7; have hff406_8 := blk_frozen BK406.out 8; have hff406_9 := blk_frozen BK406.out 9) | ((with_reducible refine gate_callee (f := 10) rfl ?_); refine goesL_ (some 57) rfl rfl Tryd.func10 (by kernel_rfl) rfl #[.agg #[.int .i64 t395, .int .i64 t396, .bool t397, .bool t398, .int .i64 t399, .int .i64 t400, .int .i64 t401, .int .u32 t402, .int .u32 t403, .string t404]] rfl (by (try simp only [List.map_toArray, List.map_cons, List.map_nil]); first | done | rfl | (simp only [List.length_drop, List.length_take]; rfl)) ?_; (with_reducible refine (inet_Build.calls kj12 t395 t396 t397 t398 t399 t400 t401 t402 t403 t404 t408 t409 _ A28.out).mono ?_); rintro e w51 ⟨rfl, hb⟩; refine ⟨_, rfl, ?_⟩; have n0_ := Aside0.mk (blk_below (g := gb370) (o := .cells #[.int .i64 t371, .int .i64 t372, .bool t373, .bool t374, .int .i64 t375, .int .i64 t376, .int .i64 t377, .int .u32 t378, .int .u32 t379, .string t380] 24 (0, 0)) (by (with_reducible repeat (first | refine blk_drewN ?_ _ | refine blk_drew ?_ | refine blk_alloc ?_ _)); refine blk_far ?_ NB370_406.out _; (with_reducible repeat (first | refine blk_drewN ?_ _ | refine blk_drew ?_ | refine blk_alloc ?_ _)); refine blk_far ?_ NB370_406.out _; (with_reducible repeat (first | refine blk_drewN ?_ _ | refine blk_drew ?_ | refine blk_alloc ?_ _)); refine blk_far ?_ NB370_406.out _; (with_reducible repeat (first | refine blk_drewN ?_ _ | refine blk_drew ?_ | refine blk_alloc ?_ _)); refine blk_far ?_ NB370_406.out _; (with_reducible repeat (first | refine blk_drewN ?_ _ | refine blk_drew ?_ | refine blk_alloc ?_ _)); refine blk_far ?_ NB370_406.out _; (with_reducible repeat (first | refine blk_drewN ?_ _ | refine blk_drew ?_ | refine blk_alloc ?_ _)); refine blk_far ?_ NB370_406.out _; (with_reducible repeat (first | refine blk_drewN ?_ _ | refine blk_drew ?_ | refine blk_alloc ?_ _)); exact BK370.out) hb); have n1_ := Aside0.mk (blk_below (g := gb406) (o := .cells #[.int .i64 t395, .int .i64 t396, .bool t397, .bool t398, .int .i64 t399, .int .i64 t400, .int .i64 t401, .int .u32 t402, .int .u32 t403, .string t404] 24 (0, 0)) (by (with_reducible repeat (first | refine blk_drewN ?_ _ | refine blk_drew ?_ | refine blk_alloc ?_ _)); refine blk_put (cs := #[.int .i64 t395, .int .i64 t396, .bool t397, .bool t398, .int .i64 t399, .int .i64 t400, .int .i64 t401, .int .u32 t402, .int .u32 t403, .string (⟨#[]⟩ : ByteArray)]) ?_ 9 _ rfl; (with_reducible repeat (first | refine blk_drewN ?_ _ | refine blk_drew ?_ | refine blk_alloc ?_ _)); refine blk_put (cs := #[.int .i64 t395, .int .i64 t396, .bool t397, .bool t398, .int .i64 t399, .int .i64 t400, .int .i64 t401, .int .u32 t402, .int .u32 0, .string (⟨#[]⟩ : ByteArray)]) ?_ 8 _ rfl; (with_reducible repeat (first | refine blk_drewN ?_ _ | refine blk_drew ?_ | refine blk_alloc ?_ _)); refine blk_put (cs := #[.int .i64 t395, .int .i64 t396, .bool t397, .bool t398, .int .i64 t399, .int .i64 t400, .int .i64 t401, .int .u32 0, .int .u32 0, .string (⟨#[]⟩ : ByteArray)]) ?_ 7 _ rfl; (with_reducible repeat (first | refine blk_drewN ?_ _ | refine blk_drew ?_ | refine blk_alloc ?_ _)); refine blk_put (cs := #[.int .i64 t395, .int .i64 t396, .bool t397, .bool t398, .int .i64 t399, .int .i64 t400, .int .i64 0, .int .u32 0, .int .u32 0, .string (⟨#[]⟩ : ByteArray)]) ?_ 6 _ rfl; (with_reducible repeat (first | refine blk_drewN ?_ _ | refine blk_drew ?_ | refine blk_alloc ?_ _)); refine blk_put (cs := #[.int .i64 t395, .int .i64 t396, .bool t397, .bool t398, .int .i64 t399, .int .i64 0, .int .i64 0, .int .u32 0, .int .u32 0, .string (⟨#[]⟩ : ByteArray)]) ?_ 5 _ rfl; (with_reducible repeat (first | refine blk_drewN ?_ _ | refine blk_drew ?_ | refine blk_alloc ?_ _)); refine blk_put (cs := #[.int .i64 t395, .int .i64 t396, .bool t397, .bool t398, .int .i64 0, .int .i64 0, .int .i64 0, .int .u32 0, .int .u32 0, .string (⟨#[]⟩ : ByteArray)]) ?_ 4 _ rfl; (with_reducible repeat (first | refine blk_drewN ?_ _ | refine blk_drew ?_ | refine blk_alloc ?_ _)); exact BK406.out) hb); have n2_ := Aside0.mk (below_step (by repeat (first | (with_reducible first | exact HB.out | apply below_alloc | apply pw_below_drewN | apply below_drew1 | refine below_set ?_ GE370.out | refine below_set ?_ GE406.out) | exact HB.out)) hb); clear BK370; clear BK406; clear HB; have BK370 := n0_; have BK406 := n1_; have HB := n2_; clear n0_ n1_ n2_; have hcy3_370_0 := (show World.cell? _ ⟨gb370, 0, none⟩ = some (.int .i64 t371) from (blk_cell BK370.out 0).trans rfl); have hcy3_370_1 := (show World.cell? _ ⟨gb370, 1, none⟩ = some (.int .i64 t372) from (blk_cell BK370.out 1).trans rfl); have hcy3_370_2 := (show World.cell? _ ⟨gb370, 2, none⟩ = some (.bool t373) from (blk_cell BK370.out 2).trans rfl); have hcy3_370_3 := (show World.cell? _ ⟨gb370, 3, none⟩ = some (.bool t374) from (blk_cell BK370.out 3).trans rfl); have hcy3_370_4 := (show World.cell? _ ⟨gb370, 4, none⟩ = some (.int .i64 t375) from (blk_cell BK370.out 4).trans rfl); have hcy3_370_5 := (show World.cell? _ ⟨gb370, 5, none⟩ = some (.int .i64 t376) from (blk_cell BK370.out 5).trans rfl); have hcy3_370_6 := (show World.cell? _ ⟨gb370, 6, none⟩ = some (.int .i64 t377) from (blk_cell BK370.out 6).trans rfl); have hcy3_370_7 := (show World.cell? _ ⟨gb370, 7, none⟩ = some (.int .u32 t378) from (blk_cell BK370.out 7).trans rfl); have hcy3_370_8 := (show World.cell? _ ⟨gb370, 8, none⟩ = some (.int .u32 t379) from (blk_cell BK370.out 8).trans rfl); have hcy3_370_9 := (show World.cell? _ ⟨gb370, 9, none⟩ = some (.string t380) from (blk_cell BK370.out 9).trans rfl); (try clear hb); (try clear hb2); (try clear hk); (try clear hi)))
                   have n0_ := Aside0.mk (blk_drew BK370.out)
                   have n1_ := Aside0.mk (blk_drew BK406.out)
                   have n2_ := Aside0.mk (below_drew1 HB.out)
                   clear BK370
                   clear BK406
                   clear HB
                   have BK370 := n0_
                   have BK406 := n1_
                   have HB := n2_
                   clear n0_ n1_ n2_
                   refine start_ (n := 16) (S := fun w' => True) (ds := []) #[false, false, false, false, false, false, false, false, false, false, false, false, false, false, false, false] (by kernel_rfl) rfl rfl trivial (fun hHeld => ?_); refine with_tabW gangwaylaw06_InetBack.tab14 gangwaylaw06_InetBack.bits14 (fun HT_ HW_ => ?_)
                   generalize w51.drew = w52 at BK370 BK406 HB hHeld ⊢
                   refine pure_ (i := 0) (N := some 74) (v := ?_) (a' := ?_) #[true, false, false, false, false, false, false, false, false, false, false, false, false, false, false, false] rfl rfl (any_of HT_.out (by kernel_rfl)) (fun _ _ _ h => h) (Or.inl ⟨by rfl, ?_⟩) ?_ ?_
                   rotate_left
                   ·intro w'
                    go_simp
                    with_reducible rfl
                   rotate_left
                   ·simp only [Act.put, List.setIfInBounds_toArray, List.set_cons_zero, List.set_cons_succ, i64_w, i32_w]
                    rfl
                   refine pure_ (i := 1) (N := some 75) (v := ?_) (a' := ?_) #[true, true, false, false, false, false, false, false, false, false, false, false, false, false, false, false] rfl rfl (any_of HT_.out (by kernel_rfl)) (fun _ _ _ h => h) (Or.inl ⟨by rfl, ?_⟩) ?_ ?_
                   rotate_left
                   ·intro w'
                    go_simp
                    with_reducible rfl
                   rotate_left
                   ·simp only [Act.put, List.setIfInBounds_toArray, List.set_cons_zero, List.set_cons_succ, i64_w, i32_w]
                    rfl
                   refine pure_ (i := 2) (N := some 76) (v := ?_) (a' := ?_) #[true, true, true, false, false, false, false, false, false, false, false, false, false, false, false, false] rfl rfl (any_of HT_.out (by kernel_rfl)) (fun _ _ _ h => h) (Or.inl ⟨by rfl, ?_⟩) ?_ ?_
                   rotate_left
                   ·intro w'
                    go_simp
                    with_reducible rfl
                   rotate_left
                   ·simp only [Act.put, List.setIfInBounds_toArray, List.set_cons_zero, List.set_cons_succ, i64_w, i32_w]
                    rfl
                   refine pure_ (i := 3) (N := some 77) (v := ?_) (a' := ?_) #[true, true, true, true, false, false, false, false, false, false, false, false, false, false, false, false] rfl rfl (any_of HT_.out (by kernel_rfl)) (fun _ _ _ h => h) (Or.inl ⟨by rfl, ?_⟩) ?_ ?_
                   rotate_left
                   ·intro w'
                    go_simp
                    with_reducible rfl
                   rotate_left
                   ·simp only [Act.put, List.setIfInBounds_toArray, List.set_cons_zero, List.set_cons_succ, i64_w, i32_w]
                    rfl
                   refine pure_ (i := 4) (N := some 78) (v := ?_) (a' := ?_) #[true, true, true, true, true, false, false, false, false, false, false, false, false, false, false, false] rfl rfl (any_of HT_.out (by kernel_rfl)) (fun _ _ _ h => h) (Or.inl ⟨by rfl, ?_⟩) ?_ ?_
                   rotate_left
                   ·intro w'
                    go_simp
                    with_reducible rfl
                   rotate_left
                   ·simp only [Act.put, List.setIfInBounds_toArray, List.set_cons_zero, List.set_cons_succ, i64_w, i32_w]
                    rfl
                   refine pure_ (i := 5) (N := some 79) (v := ?_) (a' := ?_) #[true, true, true, true, true, true, false, false, false, false, false, false, false, false, false, false] rfl rfl (any_of HT_.out (by kernel_rfl)) (fun _ _ _ h => h) (Or.inl ⟨by rfl, ?_⟩) ?_ ?_
                   rotate_left
                   ·intro w'
                    go_simp
                    with_reducible rfl
                   rotate_left
                   ·simp only [Act.put, List.setIfInBounds_toArray, List.set_cons_zero, List.set_cons_succ, i64_w, i32_w]
                    rfl
                   refine pure_ (i := 6) (N := some 80) (v := undef) (a' := ?_) #[true, true, true, true, true, true, true, false, false, false, false, false, false, false, false, false] rfl rfl (any_of HT_.out (by kernel_rfl)) (fun _ _ _ h => h) (Or.inr ⟨by first | rfl | exact wanted_off rfl rfl rfl (by first | rfl | (simp [*]; done) | (simp [*, IntKind.wrap_u32]; done) | (simp_all [IntKind.wrap_u32]; done)), rfl⟩) ?_ ?_
                   rotate_left
                   ·simp only [Act.put, List.setIfInBounds_toArray, List.set_cons_zero, List.set_cons_succ, i64_w, i32_w]
                    rfl
                   refine pure_ (i := 7) (N := some 81) (v := undef) (a' := ?_) #[true, true, true, true, true, true, true, true, false, false, false, false, false, false, false, false] rfl rfl (any_of HT_.out (by kernel_rfl)) (fun _ _ _ h => h) (Or.inr ⟨by first | rfl | exact wanted_off rfl rfl rfl (by first | rfl | (simp [*]; done) | (simp [*, IntKind.wrap_u32]; done) | (simp_all [IntKind.wrap_u32]; done)), rfl⟩) ?_ ?_
                   rotate_left
                   ·simp only [Act.put, List.setIfInBounds_toArray, List.set_cons_zero, List.set_cons_succ, i64_w, i32_w]
                    rfl
                   refine pure_ (i := 8) (N := some 82) (v := undef) (a' := ?_) #[true, true, true, true, true, true, true, true, true, false, false, false, false, false, false, false] rfl rfl (any_of HT_.out (by kernel_rfl)) (fun _ _ _ h => h) (Or.inr ⟨by first | rfl | exact wanted_off rfl rfl rfl (by first | rfl | (simp [*]; done) | (simp [*, IntKind.wrap_u32]; done) | (simp_all [IntKind.wrap_u32]; done)), rfl⟩) ?_ ?_
                   rotate_left
                   ·simp only [Act.put, List.setIfInBounds_toArray, List.set_cons_zero, List.set_cons_succ, i64_w, i32_w]
                    rfl
                   refine pure_ (i := 9) (N := some 83) (v := undef) (a' := ?_) #[true, true, true, true, true, true, true, true, true, true, false, false, false, false, false, false] rfl rfl (any_of HT_.out (by kernel_rfl)) (fun _ _ _ h => h) (Or.inr ⟨by first | rfl | exact wanted_off rfl rfl rfl (by first | rfl | (simp [*]; done) | (simp [*, IntKind.wrap_u32]; done) | (simp_all [IntKind.wrap_u32]; done)), rfl⟩) ?_ ?_
                   rotate_left
                   ·simp only [Act.put, List.setIfInBounds_toArray, List.set_cons_zero, List.set_cons_succ, i64_w, i32_w]
                    rfl
                   refine pure_ (i := 10) (N := some 84) (v := undef) (a' := ?_) #[true, true, true, true, true, true, true, true, true, true, true, false, false, false, false, false] rfl rfl (any_of HT_.out (by kernel_rfl)) (fun _ _ _ h => h) (Or.inr ⟨by first | rfl | exact wanted_off rfl rfl rfl (by first | rfl | (simp [*]; done) | (simp [*, IntKind.wrap_u32]; done) | (simp_all [IntKind.wrap_u32]; done)), rfl⟩) ?_ ?_
                   rotate_left
                   ·simp only [Act.put, List.setIfInBounds_toArray, List.set_cons_zero, List.set_cons_succ, i64_w, i32_w]
                    rfl
                   refine pure_ (i := 11) (N := some 85) (v := undef) (a' := ?_) #[true, true, true, true, true, true, true, true, true, true, true, true, false, false, false, false] rfl rfl (any_of HT_.out (by kernel_rfl)) (fun _ _ _ h => h) (Or.inr ⟨by first | rfl | exact wanted_off rfl rfl rfl (by first | rfl | (simp [*]; done) | (simp [*, IntKind.wrap_u32]; done) | (simp_all [IntKind.wrap_u32]; done)), rfl⟩) ?_ ?_
                   rotate_left
                   ·simp only [Act.put, List.setIfInBounds_toArray, List.set_cons_zero, List.set_cons_succ, i64_w, i32_w]
                    rfl
                   refine pure_ (i := 12) (N := some 86) (v := undef) (a' := ?_) #[true, true, true, true, true, true, true, true, true, true, true, true, true, false, false, false] rfl rfl (any_of HT_.out (by kernel_rfl)) (fun _ _ _ h => h) (Or.inr ⟨by first | rfl | exact wanted_off rfl rfl rfl (by first | rfl | (simp [*]; done) | (simp [*, IntKind.wrap_u32]; done) | (simp_all [IntKind.wrap_u32]; done)), rfl⟩) ?_ ?_
                   rotate_left
                   ·simp only [Act.put, List.setIfInBounds_toArray, List.set_cons_zero, List.set_cons_succ, i64_w, i32_w]
                    rfl
                   refine pure_ (i := 13) (N := some 87) (v := undef) (a' := ?_) #[true, true, true, true, true, true, true, true, true, true, true, true, true, true, false, false] rfl rfl (any_of HT_.out (by kernel_rfl)) (fun _ _ _ h => h) (Or.inr ⟨by first | rfl | exact wanted_off rfl rfl rfl (by first | rfl | (simp [*]; done) | (simp [*, IntKind.wrap_u32]; done) | (simp_all [IntKind.wrap_u32]; done)), rfl⟩) ?_ ?_
                   rotate_left
                   ·simp only [Act.put, List.setIfInBounds_toArray, List.set_cons_zero, List.set_cons_succ, i64_w, i32_w]
                    rfl
                   refine pure_ (i := 14) (N := some 88) (v := ?_) (a' := ?_) #[true, true, true, true, true, true, true, true, true, true, true, true, true, true, true, false] rfl rfl (any_of HT_.out (by kernel_rfl)) (fun _ _ _ h => h) (Or.inl ⟨by rfl, ?_⟩) ?_ ?_
                   rotate_left
                   ·intro w'
                    go_simp
                    with_reducible rfl
                   rotate_left
                   ·simp only [Act.put, List.setIfInBounds_toArray, List.set_cons_zero, List.set_cons_succ, i64_w, i32_w]
                    rfl
                   refine pure_ (i := 15) (N := some 13) (v := ?_) (a' := ?_) #[true, true, true, true, true, true, true, true, true, true, true, true, true, true, true, true] rfl rfl (any_of HT_.out (by kernel_rfl)) (fun _ _ _ h => h) (Or.inl ⟨by rfl, ?_⟩) ?_ ?_
                   rotate_left
                   ·intro w'
                    go_simp
                    with_reducible rfl
                   rotate_left
                   ·simp only [Act.put, List.setIfInBounds_toArray, List.set_cons_zero, List.set_cons_succ, i64_w, i32_w]
                    rfl
                   refine done_ (done_of HT_.out (by kernel_rfl)) ?_
                   try go_wp2
                   have n0_ := Aside0.mk (blk_drew BK370.out)
                   have n1_ := Aside0.mk (blk_drew BK406.out)
                   have n2_ := Aside0.mk (below_drew1 HB.out)
                   clear BK370
                   clear BK406
                   clear HB
                   have BK370 := n0_
                   have BK406 := n1_
                   have HB := n2_
                   clear n0_ n1_ n2_
                   refine start_ (n := 21) (S := fun w' => True) (ds := []) #[false, false, false, false, false, false, false, false, false, false, false, false, false, false, false, false, false, false, false, false, false] (by kernel_rfl) rfl rfl trivial (fun hHeld => ?_); refine with_tabW gangwaylaw06_InetBack.tab15 gangwaylaw06_InetBack.bits15 (fun HT_ HW_ => ?_)
                   generalize w52.drew = w53 at BK370 BK406 HB hHeld ⊢
                   refine pure_ (i := 0) (N := some 89) (v := ?_) (a' := ?_) #[true, false, false, false, false, false, false, false, false, false, false, false, false, false, false, false, false, false, false, false, false] rfl rfl (any_of HT_.out (by kernel_rfl)) (fun _ _ _ h => h) (Or.inl ⟨by rfl, ?_⟩) ?_ ?_
                   rotate_left
                   ·intro w'
                    go_simp
                    with_reducible rfl
                   rotate_left
                   ·simp only [Act.put, List.setIfInBounds_toArray, List.set_cons_zero, List.set_cons_succ, i64_w, i32_w]
                    rfl
                   refine pure_ (i := 1) (N := some 90) (v := ?_) (a' := ?_) #[true, true, false, false, false, false, false, false, false, false, false, false, false, false, false, false, false, false, false, false, false] rfl rfl (any_of HT_.out (by kernel_rfl)) (fun _ _ _ h => h) (Or.inl ⟨by rfl, ?_⟩) ?_ ?_
                   rotate_left
                   ·intro w'
                    go_simp
                    with_reducible rfl
                   rotate_left
                   ·simp only [Act.put, List.setIfInBounds_toArray, List.set_cons_zero, List.set_cons_succ, i64_w, i32_w]
                    rfl
                   refine pure_ (i := 2) (N := some 91) (v := ?_) (a' := ?_) #[true, true, true, false, false, false, false, false, false, false, false, false, false, false, false, false, false, false, false, false, false] rfl rfl (any_of HT_.out (by kernel_rfl)) (fun _ _ _ h => h) (Or.inl ⟨by rfl, ?_⟩) ?_ ?_
                   rotate_left
                   ·intro w'
                    go_simp
                    with_reducible rfl
                   rotate_left
                   ·simp only [Act.put, List.setIfInBounds_toArray, List.set_cons_zero, List.set_cons_succ, i64_w, i32_w]
                    rfl
                   refine pure_ (i := 3) (N := some 92) (v := ?_) (a' := ?_) #[true, true, true, true, false, false, false, false, false, false, false, false, false, false, false, false, false, false, false, false, false] rfl rfl (any_of HT_.out (by kernel_rfl)) (fun _ _ _ h => h) (Or.inl ⟨by rfl, ?_⟩) ?_ ?_
                   rotate_left
                   ·intro w'
                    go_simp
                    with_reducible rfl
                   rotate_left
                   ·simp only [Act.put, List.setIfInBounds_toArray, List.set_cons_zero, List.set_cons_succ, i64_w, i32_w]
                    rfl
                   refine pure_ (i := 4) (N := some 93) (v := ?_) (a' := ?_) #[true, true, true, true, true, false, false, false, false, false, false, false, false, false, false, false, false, false, false, false, false] rfl rfl (any_of HT_.out (by kernel_rfl)) (fun _ _ _ h => h) (Or.inl ⟨by rfl, ?_⟩) ?_ ?_
                   rotate_left
                   ·intro w'
                    go_simp
                    with_reducible rfl
                   rotate_left
                   ·simp only [Act.put, List.setIfInBounds_toArray, List.set_cons_zero, List.set_cons_succ, i64_w, i32_w]
                    rfl
                   refine pure_ (i := 5) (N := some 94) (v := ?_) (a' := ?_) #[true, true, true, true, true, true, false, false, false, false, false, false, false, false, false, false, false, false, false, false, false] rfl rfl (any_of HT_.out (by kernel_rfl)) (fun _ _ _ h => h) (Or.inl ⟨by rfl, ?_⟩) ?_ ?_
                   rotate_left
                   ·intro w'
                    go_simp
                    with_reducible rfl
                   rotate_left
                   ·simp only [Act.put, List.setIfInBounds_toArray, List.set_cons_zero, List.set_cons_succ, i64_w, i32_w]
                    rfl
                   refine pure_ (i := 6) (N := some 95) (v := ?_) (a' := ?_) #[true, true, true, true, true, true, true, false, false, false, false, false, false, false, false, false, false, false, false, false, false] rfl rfl (any_of HT_.out (by kernel_rfl)) (fun _ _ _ h => h) (Or.inl ⟨by rfl, ?_⟩) ?_ ?_
                   rotate_left
                   ·intro w'
                    go_simp
                    with_reducible rfl
                   rotate_left
                   ·simp only [Act.put, List.setIfInBounds_toArray, List.set_cons_zero, List.set_cons_succ, i64_w, i32_w]
                    rfl
                   refine pure_ (i := 7) (N := some 96) (v := ?_) (a' := ?_) #[true, true, true, true, true, true, true, true, false, false, false, false, false, false, false, false, false, false, false, false, false] rfl rfl (any_of HT_.out (by kernel_rfl)) (fun _ _ _ h => h) (Or.inl ⟨by rfl, ?_⟩) ?_ ?_
                   rotate_left
                   ·intro w'
                    go_simp
                    with_reducible rfl
                   rotate_left
                   ·simp only [Act.put, List.setIfInBounds_toArray, List.set_cons_zero, List.set_cons_succ, i64_w, i32_w]
                    rfl
                   refine pure_ (i := 8) (N := some 97) (v := ?_) (a' := ?_) #[true, true, true, true, true, true, true, true, true, false, false, false, false, false, false, false, false, false, false, false, false] rfl rfl (any_of HT_.out (by kernel_rfl)) (fun _ _ _ h => h) (Or.inl ⟨by rfl, ?_⟩) ?_ ?_
                   rotate_left
                   ·intro w'
                    go_simp
                    with_reducible rfl
                   rotate_left
                   ·simp only [Act.put, List.setIfInBounds_toArray, List.set_cons_zero, List.set_cons_succ, i64_w, i32_w]
                    rfl
                   refine pure_ (i := 9) (N := some 98) (v := ?_) (a' := ?_) #[true, true, true, true, true, true, true, true, true, true, false, false, false, false, false, false, false, false, false, false, false] rfl rfl (any_of HT_.out (by kernel_rfl)) (fun _ _ _ h => h) (Or.inl ⟨by rfl, ?_⟩) ?_ ?_
                   rotate_left
                   ·intro w'
                    go_simp
                    with_reducible rfl
                   rotate_left
                   ·simp only [Act.put, List.setIfInBounds_toArray, List.set_cons_zero, List.set_cons_succ, i64_w, i32_w]
                    rfl
                   refine pure_ (i := 10) (N := some 99) (v := ?_) (a' := ?_) #[true, true, true, true, true, true, true, true, true, true, true, false, false, false, false, false, false, false, false, false, false] rfl rfl (any_of HT_.out (by kernel_rfl)) (fun _ _ _ h => h) (Or.inl ⟨by rfl, ?_⟩) ?_ ?_
                   rotate_left
                   ·intro w'
                    go_simp
                    with_reducible rfl
                   rotate_left
                   ·simp only [Act.put, List.setIfInBounds_toArray, List.set_cons_zero, List.set_cons_succ, i64_w, i32_w]
                    rfl
                   refine pure_ (i := 11) (N := some 100) (v := ?_) (a' := ?_) #[true, true, true, true, true, true, true, true, true, true, true, true, false, false, false, false, false, false, false, false, false] rfl rfl (any_of HT_.out (by kernel_rfl)) (fun _ _ _ h => h) (Or.inl ⟨by rfl, ?_⟩) ?_ ?_
                   rotate_left
                   ·intro w'
                    go_simp
                    with_reducible rfl
                   rotate_left
                   ·simp only [Act.put, List.setIfInBounds_toArray, List.set_cons_zero, List.set_cons_succ, i64_w, i32_w]
                    rfl
                   refine pure_ (i := 12) (N := some 101) (v := ?_) (a' := ?_) #[true, true, true, true, true, true, true, true, true, true, true, true, true, false, false, false, false, false, false, false, false] rfl rfl (any_of HT_.out (by kernel_rfl)) (fun _ _ _ h => h) (Or.inl ⟨by rfl, ?_⟩) ?_ ?_
                   rotate_left
                   ·intro w'
                    go_simp
                    with_reducible rfl
                   rotate_left
                   ·simp only [Act.put, List.setIfInBounds_toArray, List.set_cons_zero, List.set_cons_succ, i64_w, i32_w]
                    rfl
                   refine pure_ (i := 13) (N := some 102) (v := ?_) (a' := ?_) #[true, true, true, true, true, true, true, true, true, true, true, true, true, true, false, false, false, false, false, false, false] rfl rfl (any_of HT_.out (by kernel_rfl)) (fun _ _ _ h => h) (Or.inl ⟨by rfl, ?_⟩) ?_ ?_
                   rotate_left
                   ·intro w'
                    go_simp
                    with_reducible rfl
                   rotate_left
                   ·simp only [Act.put, List.setIfInBounds_toArray, List.set_cons_zero, List.set_cons_succ, i64_w, i32_w]
                    rfl
                   refine pure_ (i := 14) (N := some 103) (v := ?_) (a' := ?_) #[true, true, true, true, true, true, true, true, true, true, true, true, true, true, true, false, false, false, false, false, false] rfl rfl (any_of HT_.out (by kernel_rfl)) (fun _ _ _ h => h) (Or.inl ⟨by rfl, ?_⟩) ?_ ?_
                   rotate_left
                   ·intro w'
                    go_simp
                    with_reducible rfl
                   rotate_left
                   ·simp only [Act.put, List.setIfInBounds_toArray, List.set_cons_zero, List.set_cons_succ, i64_w, i32_w]
                    rfl
                   refine pure_ (i := 15) (N := some 104) (v := ?_) (a' := ?_) #[true, true, true, true, true, true, true, true, true, true, true, true, true, true, true, true, false, false, false, false, false] rfl rfl (any_of HT_.out (by kernel_rfl)) (fun _ _ _ h => h) (Or.inl ⟨by rfl, ?_⟩) ?_ ?_
                   rotate_left
                   ·intro w'
                    go_simp
                    with_reducible rfl
                   rotate_left
                   ·simp only [Act.put, List.setIfInBounds_toArray, List.set_cons_zero, List.set_cons_succ, i64_w, i32_w]
                    rfl
                   refine pure_ (i := 16) (N := some 105) (v := ?_) (a' := ?_) #[true, true, true, true, true, true, true, true, true, true, true, true, true, true, true, true, true, false, false, false, false] rfl rfl (any_of HT_.out (by kernel_rfl)) (fun _ _ _ h => h) (Or.inl ⟨by rfl, ?_⟩) ?_ ?_
                   rotate_left
                   ·intro w'
                    go_simp
                    with_reducible rfl
                   rotate_left
                   ·simp only [Act.put, List.setIfInBounds_toArray, List.set_cons_zero, List.set_cons_succ, i64_w, i32_w]
                    rfl
                   refine pure_ (i := 17) (N := some 106) (v := ?_) (a' := ?_) #[true, true, true, true, true, true, true, true, true, true, true, true, true, true, true, true, true, true, false, false, false] rfl rfl (any_of HT_.out (by kernel_rfl)) (fun _ _ _ h => h) (Or.inl ⟨by rfl, ?_⟩) ?_ ?_
                   rotate_left
                   ·intro w'
                    go_simp
                    with_reducible rfl
                   rotate_left
                   ·simp only [Act.put, List.setIfInBounds_toArray, List.set_cons_zero, List.set_cons_succ, i64_w, i32_w]
                    rfl
                   refine one_ (i := 18) (N := some 107) #[true, true, true, true, true, true, true, true, true, true, true, true, true, true, true, true, true, true, true, false, false] rfl rfl (one_of HT_.out (by kernel_rfl)) (by decide) (fun K hK => ?_)
                   refine goes_ Tryd.func12 (by kernel_rfl) rfl #[] (by first | rfl | exact wanted_on rfl rfl rfl (by first | rfl | (simp [*]; done) | (simp [*, IntKind.wrap_u32]; done))) rfl rfl (by (try simp only [List.map_toArray, List.map_cons, List.map_nil]); first | done | rfl | (simp only [List.length_drop, List.length_take]; rfl)) ?_
                   with_reducible refine (gangwaylaw06_fixed.calls kj12  t410 _ ?sideL A46.out).mono ?_
                   case sideL => exact laid_below HLD.out (by repeat (first | (with_reducible first | exact HB.out | apply below_alloc | apply pw_below_drewN | apply below_drew1 | refine below_set ?_ GE370.out | refine below_set ?_ GE406.out) | exact HB.out))
                   rintro e w54 ⟨rfl, hb⟩
                   refine ⟨_, rfl, ?_⟩
                   have n0_ := Aside0.mk (blk_below (g := gb370) (o := .cells #[.int .i64 t371, .int .i64 t372, .bool t373, .bool t374, .int .i64 t375, .int .i64 t376, .int .i64 t377, .int .u32 t378, .int .u32 t379, .string t380] 24 (0, 0)) (by (with_reducible repeat (first | refine blk_drewN ?_ _ | refine blk_drew ?_ | refine blk_alloc ?_ _)); exact BK370.out) hb)
                   have n1_ := Aside0.mk (blk_below (g := gb406) (o := .cells #[.int .i64 t395, .int .i64 t396, .bool t397, .bool t398, .int .i64 t399, .int .i64 t400, .int .i64 t401, .int .u32 t402, .int .u32 t403, .string t404] 24 (0, 0)) (by (with_reducible repeat (first | refine blk_drewN ?_ _ | refine blk_drew ?_ | refine blk_alloc ?_ _)); exact BK406.out) hb)
                   have n2_ := Aside0.mk (below_step (by repeat (first | (with_reducible first | exact HB.out | apply below_alloc | apply pw_below_drewN | apply below_drew1 | refine below_set ?_ GE370.out | refine below_set ?_ GE406.out) | exact HB.out)) hb)
                   clear BK370
                   clear BK406
                   clear HB
                   have BK370 := n0_
                   have BK406 := n1_
                   have HB := n2_
                   clear n0_ n1_ n2_
                   (try clear hb)
                   (try clear hb2)
                   (try clear hk)
                   (try clear hi)
                   refine hK.out _ _ trivial (fun hHeld => ?_)
                   clear hK K
                   refine norm_ (a' := ?_) ?_ ?_
                   rotate_left
                   ·show Act.put _ (some 107) _ = _
                    simp only [Act.put, List.setIfInBounds_toArray, List.set_cons_zero, List.set_cons_succ, i64_w, i32_w]
                    rfl
                   refine pure_ (i := 19) (N := some 108) (v := ?_) (a' := ?_) #[true, true, true, true, true, true, true, true, true, true, true, true, true, true, true, true, true, true, true, true, false] rfl rfl (any_of HT_.out (by kernel_rfl)) (fun _ _ _ h => h) (Or.inl ⟨by rfl, ?_⟩) ?_ ?_
                   rotate_left
                   ·intro w'
                    go_simp
                    with_reducible rfl
                   rotate_left
                   ·simp only [Act.put, List.setIfInBounds_toArray, List.set_cons_zero, List.set_cons_succ, i64_w, i32_w]
                    rfl
                   refine pure_ (i := 20) (N := some 4) (v := ?_) (a' := ?_) #[true, true, true, true, true, true, true, true, true, true, true, true, true, true, true, true, true, true, true, true, true] rfl rfl (any_of HT_.out (by kernel_rfl)) (fun _ _ _ h => h) (Or.inl ⟨by rfl, ?_⟩) ?_ ?_
                   rotate_left
                   ·intro w'
                    go_simp
                    with_reducible rfl
                   rotate_left
                   ·simp only [Act.put, List.setIfInBounds_toArray, List.set_cons_zero, List.set_cons_succ, i64_w, i32_w]
                    rfl
                   refine done_ (done_of HT_.out (by kernel_rfl)) ?_
                   try go_wp2
                   go_ret
                   exact ⟨by first | rfl | (simp [errW_none, errW_some] <;> rfl) | (simp [*, errW_none, errW_some] <;> rfl) | (simp [*, IntKind.wrap_u32]; done) | (simp_all [IntKind.wrap_u32]; done), by repeat (first | (with_reducible first | exact HB.out | apply below_alloc | apply pw_below_drewN | apply below_drew1 | refine below_set ?_ GE370.out | refine below_set ?_ GE406.out) | exact HB.out)⟩
                  ·rw [if_neg c45] at H
                   have c45b0 : ((t408.extract 12 t408.size).toList == (x1_3.extract 12 ((t408.size : Int) : Int).toNat).toList) = false := beq_eq_false_iff_ne.mpr c45
                   have c45b1 : ((t408.extract 12 t408.size).toList != (x1_3.extract 12 ((t408.size : Int) : Int).toNat).toList) = true := bne_iff_ne.mpr c45
                   exact absurd H (by simp)
                 ·rw [if_neg c44] at H
                  exact absurd H (by simp)
                ·rw [if_neg c41] at H
                 have c41b0 : ((t408.extract 0 10).toList == (x1_3.extract 0 10).toList) = false := beq_eq_false_iff_ne.mpr c41
                 have c41b1 : ((t408.extract 0 10).toList != (x1_3.extract 0 10).toList) = true := bne_iff_ne.mpr c41
                 exact absurd H (by simp)
               ·rw [if_neg c40] at H
                exact absurd H (by simp)
              ·rw [if_neg c38] at H
               exact absurd H (by simp)
             ·rw [if_neg c37] at H
              exact absurd H (by simp)
            ·rw [if_neg c36] at H
             have c36b0 : ((t408.extract 10 12).toList == (x1_3.extract 10 12).toList) = false := beq_eq_false_iff_ne.mpr c36
             have c36b1 : ((t408.extract 10 12).toList != (x1_3.extract 10 12).toList) = true := bne_iff_ne.mpr c36
             have c55b0 := eq_true (of_decide_eq_true (by first | (with_reducible assumption) | assumption) : 10 ≤ 12)
             have c56b0 := eq_true (of_decide_eq_true (by first | (with_reducible assumption) | assumption) : 12 ≤ (t408.size : Int))
             by_cases c57 : (t408.extract 10 12).toList = ([0, 0] : List UInt8)
             ·rw [if_pos c57] at H
              have c57b0 : ((t408.extract 10 12).toList == ([0, 0] : List UInt8)) = true := beq_iff_eq.mpr c57
              have c57b1 : ((t408.extract 10 12).toList != ([0, 0] : List UInt8)) = false := bne_eq_false_iff_eq.mpr c57
              clear c57
              have c58b0 := eq_true (of_decide_eq_true (by first | (with_reducible assumption) | assumption) : 10 ≤ 12)
              have c59b0 := eq_true (of_decide_eq_true (by first | (with_reducible assumption) | assumption) : 12 ≤ (x1_3.size : Int))
              by_cases c60 : (x1_3.extract 10 12).toList = ([255, 255] : List UInt8)
              ·rw [if_pos c60] at H
               have c60b0 : ((x1_3.extract 10 12).toList == ([255, 255] : List UInt8)) = true := beq_iff_eq.mpr c60
               have c60b1 : ((x1_3.extract 10 12).toList != ([255, 255] : List UInt8)) = false := bne_eq_false_iff_eq.mpr c60
               clear c60
               by_cases c61 : 0 ≤ 10
               ·rw [if_pos c61] at H
                have c61b0 := eq_true c61
                have c61b1 : decide (0 ≤ 10) = true := decide_eq_true c61
                clear c61
                by_cases c62 : 10 ≤ (t408.size : Int)
                ·rw [if_pos c62] at H
                 have c62b0 := eq_true c62
                 have c62b1 : decide (10 ≤ (t408.size : Int)) = true := decide_eq_true c62
                 clear c62
                 have c63b0 := eq_true (of_decide_eq_true (by first | (with_reducible assumption) | assumption) : 0 ≤ 10)
                 by_cases c64 : 10 ≤ (x1_3.size : Int)
                 ·rw [if_pos c64] at H
                  have c64b0 := eq_true c64
                  have c64b1 : decide (10 ≤ (x1_3.size : Int)) = true := decide_eq_true c64
                  clear c64
                  by_cases c65 : (t408.extract 0 10).toList = (x1_3.extract 0 10).toList
                  ·rw [if_pos c65] at H
                   have c65b0 : ((t408.extract 0 10).toList == (x1_3.extract 0 10).toList) = true := beq_iff_eq.mpr c65
                   have c65b1 : ((t408.extract 0 10).toList != (x1_3.extract 0 10).toList) = false := bne_eq_false_iff_eq.mpr c65
                   clear c65
                   have c66b0 := eq_true (of_decide_eq_true (by first | (with_reducible assumption) | assumption) : 12 ≤ (t408.size : Int))
                   have c67b0 := eq_true (of_decide_eq_true (by first | (with_reducible assumption) | assumption) : 12 ≤ (t408.size : Int))
                   by_cases c68 : (t408.size : Int) ≤ (x1_3.size : Int)
                   ·rw [if_pos c68] at H
                    have c68b0 := eq_true c68
                    have c68b1 : decide ((t408.size : Int) ≤ (x1_3.size : Int)) = true := decide_eq_true c68
                    clear c68
                    by_cases c69 : (t408.extract 12 t408.size).toList = (x1_3.extract 12 ((t408.size : Int) : Int).toNat).toList
                    ·rw [if_pos c69] at H
                     have c69b0 : ((t408.extract 12 t408.size).toList == (x1_3.extract 12 ((t408.size : Int) : Int).toNat).toList) = true := beq_iff_eq.mpr c69
                     have c69q0 : ((t408.extract 12 t408.size).toList == (x1_3.extract 12 t408.size).toList) = true := c69b0
                     have c69q1 : ((t408.extract 12 t408.size).toList = (x1_3.extract 12 t408.size).toList) = True := eq_true (beq_iff_eq.mp c69q0)
                     have c69b1 : ((t408.extract 12 t408.size).toList != (x1_3.extract 12 ((t408.size : Int) : Int).toNat).toList) = false := bne_eq_false_iff_eq.mpr c69
                     clear c69
                     replace H := Option.bind_eq_some_iff.mp H
                     obtain ⟨t411, A700, H⟩ := H
                     replace H : (some t411) = some r := H
                     have A70 := Aside0.mk A700
                     clear A700
                     obtain rfl := Option.some.inj H
                     try go_wp2_with (first | ((with_reducible refine gate_callee (f := 16) rfl ?_); refine goesL_ (some 44) rfl rfl Tryd.func16 (by kernel_rfl) rfl #[.string x1_3] rfl (by (try simp only [List.map_toArray, List.map_cons, List.map_nil]); first | done | rfl | (simp only [List.length_drop, List.length_take]; rfl)) ?_; (with_reducible refine (inet_Parse.calls kj12 x1_3 t395 t396 t397 t398 t399 t400 t401 t402 t403 t404 t405 _ ?sideL A26.out).mono ?_); (case sideL => exact laid_below HLD.out (by repeat (first | (with_reducible first | exact HB.out | apply below_alloc | apply pw_below_drewN | apply below_drew1 | refine below_set ?_ GE370.out) | exact HB.out))); rintro e w71 ⟨rfl, hb⟩; refine ⟨_, rfl, ?_⟩; have n0_ := Aside0.mk (blk_below (g := gb370) (o := .cells #[.int .i64 t371, .int .i64 t372, .bool t373, .bool t374, .int .i64 t375, .int .i64 t376, .int .i64 t377, .int .u32 t378, .int .u32 t379, .string t380] 24 (0, 0)) (by (with_reducible repeat (first | refine blk_drewN ?_ _ | refine blk_drew ?_ | refine blk_alloc ?_ _)); exact BK370.out) hb); have n1_ := Aside0.mk (below_step (by repeat (first | (with_reducible first | exact HB.out | apply below_alloc | apply pw_below_drewN | apply below_drew1 | refine below_set ?_ GE370.out) | exact HB.out)) hb); clear BK370; clear HB; have BK370 := n0_; have HB := n1_; clear n0_ n1_; have hcy1_370_0 := (show World.cell? _ ⟨gb370, 0, none⟩ = some (.int .i64 t371) from (blk_cell BK370.out 0).trans rfl); have hcy1_370_1 := (show World.cell? _ ⟨gb370, 1, none⟩ = some (.int .i64 t372) from (blk_cell BK370.out 1).trans rfl); have hcy1_370_2 := (show World.cell? _ ⟨gb370, 2, none⟩ = some (.bool t373) from (blk_cell BK370.out 2).trans rfl); have hcy1_370_3 := (show World.cell? _ ⟨gb370, 3, none⟩ = some (.bool t374) from (blk_cell BK370.out 3).trans rfl); have hcy1_370_4 := (show World.cell? _ ⟨gb370, 4, none⟩ = some (.int .i64 t375) from (blk_cell BK370.out 4).trans rfl); have hcy1_370_5 := (show World.cell? _ ⟨gb370, 5, none⟩ = some (.int .i64 t376) from (blk_cell BK370.out 5).trans rfl); have hcy1_370_6 := (show World.cell? _ ⟨gb370, 6, none⟩ = some (.int .i64 t377) from (blk_cell BK370.out 6).trans rfl); have hcy1_370_7 := (show World.cell? _ ⟨gb370, 7, none⟩ = some (.int .u32 t378) from (blk_cell BK370.out 7).trans rfl); have hcy1_370_8 := (show World.cell? _ ⟨gb370, 8, none⟩ = some (.int .u32 t379) from (blk_cell BK370.out 8).trans rfl); have hcy1_370_9 := (show World.cell? _ ⟨gb370, 9, none⟩ = some (.string t380) from (blk_cell BK370.out 9).trans rfl); (try clear hb); (try clear hb2); (try clear hk); (try clear hi)) | ((with_reducible refine gate_dst (N := 9) rfl ?_); (try (refine gate_guard (by rfl) ?_; dsimp only)); refine box_event ?hg (N := 9) ?hd (cs := #[.int .i64 0, .int .i64 0, .bool false, .bool false, .int .i64 0, .int .i64 0, .int .i64 0, .int .u32 0, .int .u32 0, .string (⟨#[]⟩ : ByteArray)]) (t := 24) ?hr ?_; (case hd => rfl); (case hg => rfl); (case hr => first | (go_simp; done) | (go_simp; rfl)); intro gb406 hg w72 hbox hb; have n0_ := Aside0.mk (blk_below (g := gb370) (o := .cells #[.int .i64 t371, .int .i64 t372, .bool t373, .bool t374, .int .i64 t375, .int .i64 t376, .int .i64 t377, .int .u32 t378, .int .u32 t379, .string t380] 24 (0, 0)) (by (with_reducible repeat (first | refine blk_drewN ?_ _ | refine blk_drew ?_ | refine blk_alloc ?_ _)); exact BK370.out) hb); have n1_ := Aside0.mk (below_step (by repeat (first | (with_reducible first | exact HB.out | apply below_alloc | apply pw_below_drewN | apply below_drew1 | refine below_set ?_ GE370.out) | exact HB.out)) hb); have n2_ := Aside0.mk (hbox); have n3_ := Aside0.mk ((by rw [hg]; exact (below_size (by repeat (first | (with_reducible first | exact HB.out | apply below_alloc | apply pw_below_drewN | apply below_drew1 | refine below_set ?_ GE370.out) | exact HB.out))) : w.heap.size ≤ gb406)); have n4_ := Aside0.mk ((by rw [hg]; exact (below_size (by repeat (first | (with_reducible first | exact HB.out | apply below_alloc | apply pw_below_drewN | apply below_drew1 | refine below_set ?_ GE370.out) | exact HB.out))) : w.heap.size ≤ gb406)); have n5_ := Aside0.mk ((by rw [hg]; exact Nat.ne_of_lt (blk_lt (g := gb370) (o := .cells #[.int .i64 t371, .int .i64 t372, .bool t373, .bool t374, .int .i64 t375, .int .i64 t376, .int .i64 t377, .int .u32 t378, .int .u32 t379, .string t380] 24 (0, 0)) (by (with_reducible repeat (first | refine blk_drewN ?_ _ | refine blk_drew ?_ | refine blk_alloc ?_ _)); exact BK370.out)) : gb370 ≠ gb406)); have n6_ := Aside0.mk ((by rw [hg]; exact Nat.ne_of_gt (blk_lt (g := gb370) (o := .cells #[.int .i64 t371, .int .i64 t372, .bool t373, .bool t374, .int .i64 t375, .int .i64 t376, .int .i64 t377, .int .u32 t378, .int .u32 t379, .string t380] 24 (0, 0)) (by (with_reducible repeat (first | refine blk_drewN ?_ _ | refine blk_drew ?_ | refine blk_alloc ?_ _)); exact BK370.out)) : gb406 ≠ gb370)); clear BK370; clear HB; have BK370 := n0_; have HB := n1_; have BK406 := n2_; have GW406 := n3_; have GE406 := n4_; have NB370_406 := n5_; have NB406_370 := n6_; clear n0_ n1_ n2_ n3_ n4_ n5_ n6_; have hcy2_370_0 := (show World.cell? _ ⟨gb370, 0, none⟩ = some (.int .i64 t371) from (blk_cell BK370.out 0).trans rfl); have hcy2_370_1 := (show World.cell? _ ⟨gb370, 1, none⟩ = some (.int .i64 t372) from (blk_cell BK370.out 1).trans rfl); have hcy2_370_2 := (show World.cell? _ ⟨gb370, 2, none⟩ = some (.bool t373) from (blk_cell BK370.out 2).trans rfl); have hcy2_370_3 := (show World.cell? _ ⟨gb370, 3, none⟩ = some (.bool t374) from (blk_cell BK370.out 3).trans rfl); have hcy2_370_4 := (show World.cell? _ ⟨gb370, 4, none⟩ = some (.int .i64 t375) from (blk_cell BK370.out 4).trans rfl); have hcy2_370_5 := (show World.cell? _ ⟨gb370, 5, none⟩ = some (.int .i64 t376) from (blk_cell BK370.out 5).trans rfl); have hcy2_370_6 := (show World.cell? _ ⟨gb370, 6, none⟩ = some (.int .i64 t377) from (blk_cell BK370.out 6).trans rfl); have hcy2_370_7 := (show World.cell? _ ⟨gb370, 7, none⟩ = some (.int .u32 t378) from (blk_cell BK370.out 7).trans rfl); have hcy2_370_8 := (show World.cell? _ ⟨gb370, 8, none⟩ = some (.int .u32 t379) from (blk_cell BK370.out 8).trans rfl); have hcy2_370_9 := (show World.cell? _ ⟨gb370, 9, none⟩ = some (.string t380) from (blk_cell BK370.out 9).trans rfl); clear hb hbox hg; have hnb73 := NB406_370.out; have hnc73 := NB370_406.out; have hcz74_0 : w72.cell? ⟨gb406, 0, none⟩ = some (.int .i64 0) := (blk_cell BK406.out 0).trans rfl; have hcz74_1 : w72.cell? ⟨gb406, 1, none⟩ = some (.int .i64 0) := (blk_cell BK406.out 1).trans rfl; have hcz74_2 : w72.cell? ⟨gb406, 2, none⟩ = some (.bool false) := (blk_cell BK406.out 2).trans rfl; have hcz74_3 : w72.cell? ⟨gb406, 3, none⟩ = some (.bool false) := (blk_cell BK406.out 3).trans rfl; have hcz74_4 : w72.cell? ⟨gb406, 4, none⟩ = some (.int .i64 0) := (blk_cell BK406.out 4).trans rfl; have hcz74_5 : w72.cell? ⟨gb406, 5, none⟩ = some (.int .i64 0) := (blk_cell BK406.out 5).trans rfl; have hcz74_6 : w72.cell? ⟨gb406, 6, none⟩ = some (.int .i64 0) := (blk_cell BK406.out 6).trans rfl; have hcz74_7 : w72.cell? ⟨gb406, 7, none⟩ = some (.int .u32 0) := (blk_cell BK406.out 7).trans rfl; have hcz74_8 : w72.cell? ⟨gb406, 8, none⟩ = some (.int .u32 0) := (blk_cell BK406.out 8).trans rfl; have hcz74_9 : w72.cell? ⟨gb406, 9, none⟩ = some (.string (⟨#[]⟩ : ByteArray)) := (blk_cell BK406.out 9).trans rfl; have hfz74_0 := blk_frozen BK406.out 0; have hfz74_1 := blk_frozen BK406.out 1; have hfz74_2 := blk_frozen BK406.out 2; have hfz74_3 := blk_frozen BK406.out 3; have hfz74_4 := blk_frozen BK406.out 4; have hfz74_5 := blk_frozen BK406.out 5; have hfz74_6 := blk_frozen BK406.out 6; have hfz74_7 := blk_frozen BK406.out 7; have hfz74_8 := blk_frozen BK406.out 8; have hfz74_9 := blk_frozen BK406.out 9) | (obtain ⟨w72f, hgw_⟩ : ∃ y, y = (World.setCell (World.setCell (World.setCell (World.setCell w72 ⟨gb406, 0, none⟩ (.int .i64 t395)) ⟨gb406, 1, none⟩ (.int .i64 t396)) ⟨gb406, 2, none⟩ (.bool t397)) ⟨gb406, 3, none⟩ (.bool t398)) := ⟨_, rfl⟩; rw [← hgw_]; have m0_ := Aside0.mk (show w72f.heap[gb370]? = some (.cells #[.int .i64 t371, .int .i64 t372, .bool t373, .bool t374, .int .i64 t375, .int .i64 t376, .int .i64 t377, .int .u32 t378, .int .u32 t379, .string t380] 24 (0, 0)) from (by rw [hgw_]; refine blk_far ?_ NB370_406.out _; (with_reducible repeat (first | refine blk_drewN ?_ _ | refine blk_drew ?_ | refine blk_alloc ?_ _)); refine blk_far ?_ NB370_406.out _; (with_reducible repeat (first | refine blk_drewN ?_ _ | refine blk_drew ?_ | refine blk_alloc ?_ _)); refine blk_far ?_ NB370_406.out _; (with_reducible repeat (first | refine blk_drewN ?_ _ | refine blk_drew ?_ | refine blk_alloc ?_ _)); refine blk_far ?_ NB370_406.out _; (with_reducible repeat (first | refine blk_drewN ?_ _ | refine blk_drew ?_ | refine blk_alloc ?_ _)); exact BK370.out)); have m1_ := Aside0.mk (show w72f.heap[gb406]? = some (.cells #[.int .i64 t395, .int .i64 t396, .bool t397, .bool t398, .int .i64 0, .int .i64 0, .int .i64 0, .int .u32 0, .int .u32 0, .string (⟨#[]⟩ : ByteArray)] 24 (0, 0)) from (by rw [hgw_]; refine blk_put (cs := #[.int .i64 t395, .int .i64 t396, .bool t397, .bool false, .int .i64 0, .int .i64 0, .int .i64 0, .int .u32 0, .int .u32 0, .string (⟨#[]⟩ : ByteArray)]) ?_ 3 _ rfl; (with_reducible repeat (first | refine blk_drewN ?_ _ | refine blk_drew ?_ | refine blk_alloc ?_ _)); refine blk_put (cs := #[.int .i64 t395, .int .i64 t396, .bool false, .bool false, .int .i64 0, .int .i64 0, .int .i64 0, .int .u32 0, .int .u32 0, .string (⟨#[]⟩ : ByteArray)]) ?_ 2 _ rfl; (with_reducible repeat (first | refine blk_drewN ?_ _ | refine blk_drew ?_ | refine blk_alloc ?_ _)); refine blk_put (cs := #[.int .i64 t395, .int .i64 0, .bool false, .bool false, .int .i64 0, .int .i64 0, .int .i64 0, .int .u32 0, .int .u32 0, .string (⟨#[]⟩ : ByteArray)]) ?_ 1 _ rfl; (with_reducible repeat (first | refine blk_drewN ?_ _ | refine blk_drew ?_ | refine blk_alloc ?_ _)); refine blk_put (cs := #[.int .i64 0, .int .i64 0, .bool false, .bool false, .int .i64 0, .int .i64 0, .int .i64 0, .int .u32 0, .int .u32 0, .string (⟨#[]⟩ : ByteArray)]) ?_ 0 _ rfl; (with_reducible repeat (first | refine blk_drewN ?_ _ | refine blk_drew ?_ | refine blk_alloc ?_ _)); exact BK406.out)); have mb_ := Aside0.mk (show Below w.heap.size w w72f from (by rw [hgw_]; exact (by repeat (first | (with_reducible first | exact HB.out | apply below_alloc | apply pw_below_drewN | apply below_drew1 | refine below_set ?_ GE370.out | refine below_set ?_ GE406.out) | exact HB.out)))); clear BK370; have BK370 := m0_; clear m0_; clear BK406; have BK406 := m1_; clear m1_; clear HB; have HB := mb_; clear mb_; clear hgw_; have hcf370_0 : w72f.cell? ⟨gb370, 0, none⟩ = some (.int .i64 t371) := (blk_cell BK370.out 0).trans rfl; have hcf370_1 : w72f.cell? ⟨gb370, 1, none⟩ = some (.int .i64 t372) := (blk_cell BK370.out 1).trans rfl; have hcf370_2 : w72f.cell? ⟨gb370, 2, none⟩ = some (.bool t373) := (blk_cell BK370.out 2).trans rfl; have hcf370_3 : w72f.cell? ⟨gb370, 3, none⟩ = some (.bool t374) := (blk_cell BK370.out 3).trans rfl; have hcf370_4 : w72f.cell? ⟨gb370, 4, none⟩ = some (.int .i64 t375) := (blk_cell BK370.out 4).trans rfl; have hcf370_5 : w72f.cell? ⟨gb370, 5, none⟩ = some (.int .i64 t376) := (blk_cell BK370.out 5).trans rfl; have hcf370_6 : w72f.cell? ⟨gb370, 6, none⟩ = some (.int .i64 t377) := (blk_cell BK370.out 6).trans rfl; have hcf370_7 : w72f.cell? ⟨gb370, 7, none⟩ = some (.int .u32 t378) := (blk_cell BK370.out 7).trans rfl; have hcf370_8 : w72f.cell? ⟨gb370, 8, none⟩ = some (.int .u32 t379) := (blk_cell BK370.out 8).trans rfl; have hcf370_9 : w72f.cell? ⟨gb370, 9, none⟩ = some (.string t380) := (blk_cell BK370.out 9).trans rfl; have hff370_0 := blk_frozen BK370.out 0; have hff370_1 := blk_frozen BK370.out 1; have hff370_2 := blk_frozen BK370.out 2; have hff370_3 := blk_frozen BK370.out 3; have hff370_4 := blk_frozen BK370.out 4; have hff370_5 := blk_frozen BK370.out 5; have hff370_6 := blk_frozen BK370.out 6; have hff370_7 := blk_frozen BK370.out 7; have hff370_8 := blk_frozen BK370.out 8; have hff370_9 := blk_frozen BK370.out 9; have hcf406_0 : w72f.cell? ⟨gb406, 0, none⟩ = some (.int .i64 t395) := (blk_cell BK406.out 0).trans rfl; have hcf406_1 : w72f.cell? ⟨gb406, 1, none⟩ = some (.int .i64 t396) := (blk_cell BK406.out 1).trans rfl; have hcf406_2 : w72f.cell? ⟨gb406, 2, none⟩ = some (.bool t397) := (blk_cell BK406.out 2).trans rfl; have hcf406_3 : w72f.cell? ⟨gb406, 3, none⟩ = some (.bool t398) := (blk_cell BK406.out 3).trans rfl; have hcf406_4 : w72f.cell? ⟨gb406, 4, none⟩ = some (.int .i64 0) := (blk_cell BK406.out 4).trans rfl; have hcf406_5 : w72f.cell? ⟨gb406, 5, none⟩ = some (.int .i64 0) := (blk_cell BK406.out 5).trans rfl; have hcf406_6 : w72f.cell? ⟨gb406, 6, none⟩ = some (.int .i64 0) := (blk_cell BK406.out 6).trans rfl; have hcf406_7 : w72f.cell? ⟨gb406, 7, none⟩ = some (.int .u32 0) := (blk_cell BK406.out 7).trans rfl; have hcf406_8 : w72f.cell? ⟨gb406, 8, none⟩ = some (.int .u32 0) := (blk_cell BK406.out 8).trans rfl; have hcf406_9 : w72f.cell? ⟨gb406, 9, none⟩ = some (.string (⟨#[]⟩ : ByteArray)) := (blk_cell BK406.out 9).trans rfl; have hff406_0 := blk_frozen BK406.out 0; have hff406_1 := blk_frozen BK406.out 1; have hff406_2 := blk_frozen BK406.out 2; have hff406_3 := blk_frozen BK406.out 3; have hff406_4 := blk_frozen BK406.out 4; have hff406_5 := blk_frozen BK406.out 5; have hff406_6 := blk_frozen BK406.out 6; have hff406_7 := blk_frozen BK406.out 7; have hff406_8 := blk_frozen BK406.out 8; have hff406_9 := blk_frozen BK406.out 9) | ((with_reducible refine gate_callee (f := 10) rfl ?_); refine goesL_ (some 57) rfl rfl Tryd.func10 (by kernel_rfl) rfl #[.agg #[.int .i64 t395, .int .i64 t396, .bool t397, .bool t398, .int .i64 t399, .int .i64 t400, .int .i64 t401, .int .u32 t402, .int .u32 t403, .string t404]] rfl (by (try simp only [List.map_toArray, List.map_cons, List.map_nil]); first | done | rfl | (simp only [List.length_drop, List.length_take]; rfl)) ?_; (with_reducible refine (inet_Build.calls kj12 t395 t396 t397 t398 t399 t400 t401 t402 t403 t404 t408 t409 _ A28.out).mono ?_); rintro e w75 ⟨rfl, hb⟩; refine ⟨_, rfl, ?_⟩; have n0_ := Aside0.mk (blk_below (g := gb370) (o := .cells #[.int .i64 t371, .int .i64 t372, .bool t373, .bool t374, .int .i64 t375, .int .i64 t376, .int .i64 t377, .int .u32 t378, .int .u32 t379, .string t380] 24 (0, 0)) (by (with_reducible repeat (first | refine blk_drewN ?_ _ | refine blk_drew ?_ | refine blk_alloc ?_ _)); refine blk_far ?_ NB370_406.out _; (with_reducible repeat (first | refine blk_drewN ?_ _ | refine blk_drew ?_ | refine blk_alloc ?_ _)); refine blk_far ?_ NB370_406.out _; (with_reducible repeat (first | refine blk_drewN ?_ _ | refine blk_drew ?_ | refine blk_alloc ?_ _)); refine blk_far ?_ NB370_406.out _; (with_reducible repeat (first | refine blk_drewN ?_ _ | refine blk_drew ?_ | refine blk_alloc ?_ _)); refine blk_far ?_ NB370_406.out _; (with_reducible repeat (first | refine blk_drewN ?_ _ | refine blk_drew ?_ | refine blk_alloc ?_ _)); refine blk_far ?_ NB370_406.out _; (with_reducible repeat (first | refine blk_drewN ?_ _ | refine blk_drew ?_ | refine blk_alloc ?_ _)); refine blk_far ?_ NB370_406.out _; (with_reducible repeat (first | refine blk_drewN ?_ _ | refine blk_drew ?_ | refine blk_alloc ?_ _)); exact BK370.out) hb); have n1_ := Aside0.mk (blk_below (g := gb406) (o := .cells #[.int .i64 t395, .int .i64 t396, .bool t397, .bool t398, .int .i64 t399, .int .i64 t400, .int .i64 t401, .int .u32 t402, .int .u32 t403, .string t404] 24 (0, 0)) (by (with_reducible repeat (first | refine blk_drewN ?_ _ | refine blk_drew ?_ | refine blk_alloc ?_ _)); refine blk_put (cs := #[.int .i64 t395, .int .i64 t396, .bool t397, .bool t398, .int .i64 t399, .int .i64 t400, .int .i64 t401, .int .u32 t402, .int .u32 t403, .string (⟨#[]⟩ : ByteArray)]) ?_ 9 _ rfl; (with_reducible repeat (first | refine blk_drewN ?_ _ | refine blk_drew ?_ | refine blk_alloc ?_ _)); refine blk_put (cs := #[.int .i64 t395, .int .i64 t396, .bool t397, .bool t398, .int .i64 t399, .int .i64 t400, .int .i64 t401, .int .u32 t402, .int .u32 0, .string (⟨#[]⟩ : ByteArray)]) ?_ 8 _ rfl; (with_reducible repeat (first | refine blk_drewN ?_ _ | refine blk_drew ?_ | refine blk_alloc ?_ _)); refine blk_put (cs := #[.int .i64 t395, .int .i64 t396, .bool t397, .bool t398, .int .i64 t399, .int .i64 t400, .int .i64 t401, .int .u32 0, .int .u32 0, .string (⟨#[]⟩ : ByteArray)]) ?_ 7 _ rfl; (with_reducible repeat (first | refine blk_drewN ?_ _ | refine blk_drew ?_ | refine blk_alloc ?_ _)); refine blk_put (cs := #[.int .i64 t395, .int .i64 t396, .bool t397, .bool t398, .int .i64 t399, .int .i64 t400, .int .i64 0, .int .u32 0, .int .u32 0, .string (⟨#[]⟩ : ByteArray)]) ?_ 6 _ rfl; (with_reducible repeat (first | refine blk_drewN ?_ _ | refine blk_drew ?_ | refine blk_alloc ?_ _)); refine blk_put (cs := #[.int .i64 t395, .int .i64 t396, .bool t397, .bool t398, .int .i64 t399, .int .i64 0, .int .i64 0, .int .u32 0, .int .u32 0, .string (⟨#[]⟩ : ByteArray)]) ?_ 5 _ rfl; (with_reducible repeat (first | refine blk_drewN ?_ _ | refine blk_drew ?_ | refine blk_alloc ?_ _)); refine blk_put (cs := #[.int .i64 t395, .int .i64 t396, .bool t397, .bool t398, .int .i64 0, .int .i64 0, .int .i64 0, .int .u32 0, .int .u32 0, .string (⟨#[]⟩ : ByteArray)]) ?_ 4 _ rfl; (with_reducible repeat (first | refine blk_drewN ?_ _ | refine blk_drew ?_ | refine blk_alloc ?_ _)); exact BK406.out) hb); have n2_ := Aside0.mk (below_step (by repeat (first | (with_reducible first | exact HB.out | apply below_alloc | apply pw_below_drewN | apply below_drew1 | refine below_set ?_ GE370.out | refine below_set ?_ GE406.out) | exact HB.out)) hb); clear BK370; clear BK406; clear HB; have BK370 := n0_; have BK406 := n1_; have HB := n2_; clear n0_ n1_ n2_; have hcy3_370_0 := (show World.cell? _ ⟨gb370, 0, none⟩ = some (.int .i64 t371) from (blk_cell BK370.out 0).trans rfl); have hcy3_370_1 := (show World.cell? _ ⟨gb370, 1, none⟩ = some (.int .i64 t372) from (blk_cell BK370.out 1).trans rfl); have hcy3_370_2 := (show World.cell? _ ⟨gb370, 2, none⟩ = some (.bool t373) from (blk_cell BK370.out 2).trans rfl); have hcy3_370_3 := (show World.cell? _ ⟨gb370, 3, none⟩ = some (.bool t374) from (blk_cell BK370.out 3).trans rfl); have hcy3_370_4 := (show World.cell? _ ⟨gb370, 4, none⟩ = some (.int .i64 t375) from (blk_cell BK370.out 4).trans rfl); have hcy3_370_5 := (show World.cell? _ ⟨gb370, 5, none⟩ = some (.int .i64 t376) from (blk_cell BK370.out 5).trans rfl); have hcy3_370_6 := (show World.cell? _ ⟨gb370, 6, none⟩ = some (.int .i64 t377) from (blk_cell BK370.out 6).trans rfl); have hcy3_370_7 := (show World.cell? _ ⟨gb370, 7, none⟩ = some (.int .u32 t378) from (blk_cell BK370.out 7).trans rfl); have hcy3_370_8 := (show World.cell? _ ⟨gb370, 8, none⟩ = some (.int .u32 t379) from (blk_cell BK370.out 8).trans rfl); have hcy3_370_9 := (show World.cell? _ ⟨gb370, 9, none⟩ = some (.string t380) from (blk_cell BK370.out 9).trans rfl); (try clear hb); (try clear hb2); (try clear hk); (try clear hi)))
                     have n0_ := Aside0.mk (blk_drew BK370.out)
                     have n1_ := Aside0.mk (blk_drew BK406.out)
                     have n2_ := Aside0.mk (below_drew1 HB.out)
                     clear BK370
                     clear BK406
                     clear HB
                     have BK370 := n0_
                     have BK406 := n1_
                     have HB := n2_
                     clear n0_ n1_ n2_
                     refine start_ (n := 16) (S := fun w' => True) (ds := []) #[false, false, false, false, false, false, false, false, false, false, false, false, false, false, false, false] (by kernel_rfl) rfl rfl trivial (fun hHeld => ?_); refine with_tabW gangwaylaw06_InetBack.tab14 gangwaylaw06_InetBack.bits14 (fun HT_ HW_ => ?_)
                     generalize w75.drew = w76 at BK370 BK406 HB hHeld ⊢
                     refine pure_ (i := 0) (N := some 74) (v := ?_) (a' := ?_) #[true, false, false, false, false, false, false, false, false, false, false, false, false, false, false, false] rfl rfl (any_of HT_.out (by kernel_rfl)) (fun _ _ _ h => h) (Or.inl ⟨by rfl, ?_⟩) ?_ ?_
                     rotate_left
                     ·intro w'
                      go_simp
                      with_reducible rfl
                     rotate_left
                     ·simp only [Act.put, List.setIfInBounds_toArray, List.set_cons_zero, List.set_cons_succ, i64_w, i32_w]
                      rfl
                     refine pure_ (i := 1) (N := some 75) (v := ?_) (a' := ?_) #[true, true, false, false, false, false, false, false, false, false, false, false, false, false, false, false] rfl rfl (any_of HT_.out (by kernel_rfl)) (fun _ _ _ h => h) (Or.inl ⟨by rfl, ?_⟩) ?_ ?_
                     rotate_left
                     ·intro w'
                      go_simp
                      with_reducible rfl
                     rotate_left
                     ·simp only [Act.put, List.setIfInBounds_toArray, List.set_cons_zero, List.set_cons_succ, i64_w, i32_w]
                      rfl
                     refine pure_ (i := 2) (N := some 76) (v := ?_) (a' := ?_) #[true, true, true, false, false, false, false, false, false, false, false, false, false, false, false, false] rfl rfl (any_of HT_.out (by kernel_rfl)) (fun _ _ _ h => h) (Or.inl ⟨by rfl, ?_⟩) ?_ ?_
                     rotate_left
                     ·intro w'
                      go_simp
                      with_reducible rfl
                     rotate_left
                     ·simp only [Act.put, List.setIfInBounds_toArray, List.set_cons_zero, List.set_cons_succ, i64_w, i32_w]
                      rfl
                     refine pure_ (i := 3) (N := some 77) (v := ?_) (a' := ?_) #[true, true, true, true, false, false, false, false, false, false, false, false, false, false, false, false] rfl rfl (any_of HT_.out (by kernel_rfl)) (fun _ _ _ h => h) (Or.inl ⟨by rfl, ?_⟩) ?_ ?_
                     rotate_left
                     ·intro w'
                      go_simp
                      with_reducible rfl
                     rotate_left
                     ·simp only [Act.put, List.setIfInBounds_toArray, List.set_cons_zero, List.set_cons_succ, i64_w, i32_w]
                      rfl
                     refine pure_ (i := 4) (N := some 78) (v := ?_) (a' := ?_) #[true, true, true, true, true, false, false, false, false, false, false, false, false, false, false, false] rfl rfl (any_of HT_.out (by kernel_rfl)) (fun _ _ _ h => h) (Or.inl ⟨by rfl, ?_⟩) ?_ ?_
                     rotate_left
                     ·intro w'
                      go_simp
                      with_reducible rfl
                     rotate_left
                     ·simp only [Act.put, List.setIfInBounds_toArray, List.set_cons_zero, List.set_cons_succ, i64_w, i32_w]
                      rfl
                     refine pure_ (i := 5) (N := some 79) (v := ?_) (a' := ?_) #[true, true, true, true, true, true, false, false, false, false, false, false, false, false, false, false] rfl rfl (any_of HT_.out (by kernel_rfl)) (fun _ _ _ h => h) (Or.inl ⟨by rfl, ?_⟩) ?_ ?_
                     rotate_left
                     ·intro w'
                      go_simp
                      with_reducible rfl
                     rotate_left
                     ·simp only [Act.put, List.setIfInBounds_toArray, List.set_cons_zero, List.set_cons_succ, i64_w, i32_w]
                      rfl
                     refine pure_ (i := 6) (N := some 80) (v := ?_) (a' := ?_) #[true, true, true, true, true, true, true, false, false, false, false, false, false, false, false, false] rfl rfl (any_of HT_.out (by kernel_rfl)) (fun _ _ _ h => h) (Or.inl ⟨by rfl, ?_⟩) ?_ ?_
                     rotate_left
                     ·intro w'
                      go_simp
                      with_reducible rfl
                     rotate_left
                     ·simp only [Act.put, List.setIfInBounds_toArray, List.set_cons_zero, List.set_cons_succ, i64_w, i32_w]
                      rfl
                     refine pure_ (i := 7) (N := some 81) (v := ?_) (a' := ?_) #[true, true, true, true, true, true, true, true, false, false, false, false, false, false, false, false] rfl rfl (any_of HT_.out (by kernel_rfl)) (fun _ _ _ h => h) (Or.inl ⟨by rfl, ?_⟩) ?_ ?_
                     rotate_left
                     ·intro w'
                      go_simp
                      with_reducible rfl
                     rotate_left
                     ·simp only [Act.put, List.setIfInBounds_toArray, List.set_cons_zero, List.set_cons_succ, i64_w, i32_w]
                      rfl
                     refine pure_ (i := 8) (N := some 82) (v := ?_) (a' := ?_) #[true, true, true, true, true, true, true, true, true, false, false, false, false, false, false, false] rfl rfl (any_of HT_.out (by kernel_rfl)) (fun _ _ _ h => h) (Or.inl ⟨by rfl, ?_⟩) ?_ ?_
                     rotate_left
                     ·intro w'
                      go_simp
                      with_reducible rfl
                     rotate_left
                     ·simp only [Act.put, List.setIfInBounds_toArray, List.set_cons_zero, List.set_cons_succ, i64_w, i32_w]
                      rfl
                     refine pure_ (i := 9) (N := some 83) (v := ?_) (a' := ?_) #[true, true, true, true, true, true, true, true, true, true, false, false, false, false, false, false] rfl rfl (any_of HT_.out (by kernel_rfl)) (fun _ _ _ h => h) (Or.inl ⟨by rfl, ?_⟩) ?_ ?_
                     rotate_left
                     ·intro w'
                      go_simp
                      with_reducible rfl
                     rotate_left
                     ·simp only [Act.put, List.setIfInBounds_toArray, List.set_cons_zero, List.set_cons_succ, i64_w, i32_w]
                      rfl
                     refine pure_ (i := 10) (N := some 84) (v := ?_) (a' := ?_) #[true, true, true, true, true, true, true, true, true, true, true, false, false, false, false, false] rfl rfl (any_of HT_.out (by kernel_rfl)) (fun _ _ _ h => h) (Or.inl ⟨by rfl, ?_⟩) ?_ ?_
                     rotate_left
                     ·intro w'
                      go_simp
                      with_reducible rfl
                     rotate_left
                     ·simp only [Act.put, List.setIfInBounds_toArray, List.set_cons_zero, List.set_cons_succ, i64_w, i32_w]
                      rfl
                     refine pure_ (i := 11) (N := some 85) (v := ?_) (a' := ?_) #[true, true, true, true, true, true, true, true, true, true, true, true, false, false, false, false] rfl rfl (any_of HT_.out (by kernel_rfl)) (fun _ _ _ h => h) (Or.inl ⟨by rfl, ?_⟩) ?_ ?_
                     rotate_left
                     ·intro w'
                      go_simp
                      with_reducible rfl
                     rotate_left
                     ·simp only [Act.put, List.setIfInBounds_toArray, List.set_cons_zero, List.set_cons_succ, i64_w, i32_w]
                      rfl
                     refine pure_ (i := 12) (N := some 86) (v := ?_) (a' := ?_) #[true, true, true, true, true, true, true, true, true, true, true, true, true, false, false, false] rfl rfl (any_of HT_.out (by kernel_rfl)) (fun _ _ _ h => h) (Or.inl ⟨by rfl, ?_⟩) ?_ ?_
                     rotate_left
                     ·intro w'
                      go_simp
                      with_reducible rfl
                     rotate_left
                     ·simp only [Act.put, List.setIfInBounds_toArray, List.set_cons_zero, List.set_cons_succ, i64_w, i32_w]
                      rfl
                     refine pure_ (i := 13) (N := some 87) (v := ?_) (a' := ?_) #[true, true, true, true, true, true, true, true, true, true, true, true, true, true, false, false] rfl rfl (any_of HT_.out (by kernel_rfl)) (fun _ _ _ h => h) (Or.inl ⟨by rfl, ?_⟩) ?_ ?_
                     rotate_left
                     ·intro w'
                      go_simp
                      with_reducible rfl
                     rotate_left
                     ·simp only [Act.put, List.setIfInBounds_toArray, List.set_cons_zero, List.set_cons_succ, i64_w, i32_w]
                      rfl
                     refine pure_ (i := 14) (N := some 88) (v := ?_) (a' := ?_) #[true, true, true, true, true, true, true, true, true, true, true, true, true, true, true, false] rfl rfl (any_of HT_.out (by kernel_rfl)) (fun _ _ _ h => h) (Or.inl ⟨by rfl, ?_⟩) ?_ ?_
                     rotate_left
                     ·intro w'
                      go_simp
                      with_reducible rfl
                     rotate_left
                     ·simp only [Act.put, List.setIfInBounds_toArray, List.set_cons_zero, List.set_cons_succ, i64_w, i32_w]
                      rfl
                     refine pure_ (i := 15) (N := some 13) (v := ?_) (a' := ?_) #[true, true, true, true, true, true, true, true, true, true, true, true, true, true, true, true] rfl rfl (any_of HT_.out (by kernel_rfl)) (fun _ _ _ h => h) (Or.inl ⟨by rfl, ?_⟩) ?_ ?_
                     rotate_left
                     ·intro w'
                      go_simp
                      with_reducible rfl
                     rotate_left
                     ·simp only [Act.put, List.setIfInBounds_toArray, List.set_cons_zero, List.set_cons_succ, i64_w, i32_w]
                      rfl
                     refine done_ (done_of HT_.out (by kernel_rfl)) ?_
                     try go_wp2
                     have n0_ := Aside0.mk (blk_drew BK370.out)
                     have n1_ := Aside0.mk (blk_drew BK406.out)
                     have n2_ := Aside0.mk (below_drew1 HB.out)
                     clear BK370
                     clear BK406
                     clear HB
                     have BK370 := n0_
                     have BK406 := n1_
                     have HB := n2_
                     clear n0_ n1_ n2_
                     refine start_ (n := 21) (S := fun w' => True) (ds := []) #[false, false, false, false, false, false, false, false, false, false, false, false, false, false, false, false, false, false, false, false, false] (by kernel_rfl) rfl rfl trivial (fun hHeld => ?_); refine with_tabW gangwaylaw06_InetBack.tab15 gangwaylaw06_InetBack.bits15 (fun HT_ HW_ => ?_)
                     generalize w76.drew = w77 at BK370 BK406 HB hHeld ⊢
                     refine pure_ (i := 0) (N := some 89) (v := ?_) (a' := ?_) #[true, false, false, false, false, false, false, false, false, false, false, false, false, false, false, false, false, false, false, false, false] rfl rfl (any_of HT_.out (by kernel_rfl)) (fun _ _ _ h => h) (Or.inl ⟨by rfl, ?_⟩) ?_ ?_
                     rotate_left
                     ·intro w'
                      go_simp
                      with_reducible rfl
                     rotate_left
                     ·simp only [Act.put, List.setIfInBounds_toArray, List.set_cons_zero, List.set_cons_succ, i64_w, i32_w]
                      rfl
                     refine pure_ (i := 1) (N := some 90) (v := ?_) (a' := ?_) #[true, true, false, false, false, false, false, false, false, false, false, false, false, false, false, false, false, false, false, false, false] rfl rfl (any_of HT_.out (by kernel_rfl)) (fun _ _ _ h => h) (Or.inl ⟨by rfl, ?_⟩) ?_ ?_
                     rotate_left
                     ·intro w'
                      go_simp
                      with_reducible rfl
                     rotate_left
                     ·simp only [Act.put, List.setIfInBounds_toArray, List.set_cons_zero, List.set_cons_succ, i64_w, i32_w]
                      rfl
                     refine pure_ (i := 2) (N := some 91) (v := ?_) (a' := ?_) #[true, true, true, false, false, false, false, false, false, false, false, false, false, false, false, false, false, false, false, false, false] rfl rfl (any_of HT_.out (by kernel_rfl)) (fun _ _ _ h => h) (Or.inl ⟨by rfl, ?_⟩) ?_ ?_
                     rotate_left
                     ·intro w'
                      go_simp
                      with_reducible rfl
                     rotate_left
                     ·simp only [Act.put, List.setIfInBounds_toArray, List.set_cons_zero, List.set_cons_succ, i64_w, i32_w]
                      rfl
                     refine pure_ (i := 3) (N := some 92) (v := ?_) (a' := ?_) #[true, true, true, true, false, false, false, false, false, false, false, false, false, false, false, false, false, false, false, false, false] rfl rfl (any_of HT_.out (by kernel_rfl)) (fun _ _ _ h => h) (Or.inl ⟨by rfl, ?_⟩) ?_ ?_
                     rotate_left
                     ·intro w'
                      go_simp
                      with_reducible rfl
                     rotate_left
                     ·simp only [Act.put, List.setIfInBounds_toArray, List.set_cons_zero, List.set_cons_succ, i64_w, i32_w]
                      rfl
                     refine pure_ (i := 4) (N := some 93) (v := ?_) (a' := ?_) #[true, true, true, true, true, false, false, false, false, false, false, false, false, false, false, false, false, false, false, false, false] rfl rfl (any_of HT_.out (by kernel_rfl)) (fun _ _ _ h => h) (Or.inl ⟨by rfl, ?_⟩) ?_ ?_
                     rotate_left
                     ·intro w'
                      go_simp
                      with_reducible rfl
                     rotate_left
                     ·simp only [Act.put, List.setIfInBounds_toArray, List.set_cons_zero, List.set_cons_succ, i64_w, i32_w]
                      rfl
                     refine pure_ (i := 5) (N := some 94) (v := ?_) (a' := ?_) #[true, true, true, true, true, true, false, false, false, false, false, false, false, false, false, false, false, false, false, false, false] rfl rfl (any_of HT_.out (by kernel_rfl)) (fun _ _ _ h => h) (Or.inl ⟨by rfl, ?_⟩) ?_ ?_
                     rotate_left
                     ·intro w'
                      go_simp
                      with_reducible rfl
                     rotate_left
                     ·simp only [Act.put, List.setIfInBounds_toArray, List.set_cons_zero, List.set_cons_succ, i64_w, i32_w]
                      rfl
                     refine pure_ (i := 6) (N := some 95) (v := ?_) (a' := ?_) #[true, true, true, true, true, true, true, false, false, false, false, false, false, false, false, false, false, false, false, false, false] rfl rfl (any_of HT_.out (by kernel_rfl)) (fun _ _ _ h => h) (Or.inl ⟨by rfl, ?_⟩) ?_ ?_
                     rotate_left
                     ·intro w'
                      go_simp
                      with_reducible rfl
                     rotate_left
                     ·simp only [Act.put, List.setIfInBounds_toArray, List.set_cons_zero, List.set_cons_succ, i64_w, i32_w]
                      rfl
                     refine pure_ (i := 7) (N := some 96) (v := ?_) (a' := ?_) #[true, true, true, true, true, true, true, true, false, false, false, false, false, false, false, false, false, false, false, false, false] rfl rfl (any_of HT_.out (by kernel_rfl)) (fun _ _ _ h => h) (Or.inl ⟨by rfl, ?_⟩) ?_ ?_
                     rotate_left
                     ·intro w'
                      go_simp
                      with_reducible rfl
                     rotate_left
                     ·simp only [Act.put, List.setIfInBounds_toArray, List.set_cons_zero, List.set_cons_succ, i64_w, i32_w]
                      rfl
                     refine pure_ (i := 8) (N := some 97) (v := ?_) (a' := ?_) #[true, true, true, true, true, true, true, true, true, false, false, false, false, false, false, false, false, false, false, false, false] rfl rfl (any_of HT_.out (by kernel_rfl)) (fun _ _ _ h => h) (Or.inl ⟨by rfl, ?_⟩) ?_ ?_
                     rotate_left
                     ·intro w'
                      go_simp
                      with_reducible rfl
                     rotate_left
                     ·simp only [Act.put, List.setIfInBounds_toArray, List.set_cons_zero, List.set_cons_succ, i64_w, i32_w]
                      rfl
                     refine pure_ (i := 9) (N := some 98) (v := ?_) (a' := ?_) #[true, true, true, true, true, true, true, true, true, true, false, false, false, false, false, false, false, false, false, false, false] rfl rfl (any_of HT_.out (by kernel_rfl)) (fun _ _ _ h => h) (Or.inl ⟨by rfl, ?_⟩) ?_ ?_
                     rotate_left
                     ·intro w'
                      go_simp
                      with_reducible rfl
                     rotate_left
                     ·simp only [Act.put, List.setIfInBounds_toArray, List.set_cons_zero, List.set_cons_succ, i64_w, i32_w]
                      rfl
                     refine pure_ (i := 10) (N := some 99) (v := ?_) (a' := ?_) #[true, true, true, true, true, true, true, true, true, true, true, false, false, false, false, false, false, false, false, false, false] rfl rfl (any_of HT_.out (by kernel_rfl)) (fun _ _ _ h => h) (Or.inl ⟨by rfl, ?_⟩) ?_ ?_
                     rotate_left
                     ·intro w'
                      go_simp
                      with_reducible rfl
                     rotate_left
                     ·simp only [Act.put, List.setIfInBounds_toArray, List.set_cons_zero, List.set_cons_succ, i64_w, i32_w]
                      rfl
                     refine pure_ (i := 11) (N := some 100) (v := ?_) (a' := ?_) #[true, true, true, true, true, true, true, true, true, true, true, true, false, false, false, false, false, false, false, false, false] rfl rfl (any_of HT_.out (by kernel_rfl)) (fun _ _ _ h => h) (Or.inl ⟨by rfl, ?_⟩) ?_ ?_
                     rotate_left
                     ·intro w'
                      go_simp
                      with_reducible rfl
                     rotate_left
                     ·simp only [Act.put, List.setIfInBounds_toArray, List.set_cons_zero, List.set_cons_succ, i64_w, i32_w]
                      rfl
                     refine pure_ (i := 12) (N := some 101) (v := ?_) (a' := ?_) #[true, true, true, true, true, true, true, true, true, true, true, true, true, false, false, false, false, false, false, false, false] rfl rfl (any_of HT_.out (by kernel_rfl)) (fun _ _ _ h => h) (Or.inl ⟨by rfl, ?_⟩) ?_ ?_
                     rotate_left
                     ·intro w'
                      go_simp
                      with_reducible rfl
                     rotate_left
                     ·simp only [Act.put, List.setIfInBounds_toArray, List.set_cons_zero, List.set_cons_succ, i64_w, i32_w]
                      rfl
                     refine pure_ (i := 13) (N := some 102) (v := ?_) (a' := ?_) #[true, true, true, true, true, true, true, true, true, true, true, true, true, true, false, false, false, false, false, false, false] rfl rfl (any_of HT_.out (by kernel_rfl)) (fun _ _ _ h => h) (Or.inl ⟨by rfl, ?_⟩) ?_ ?_
                     rotate_left
                     ·intro w'
                      go_simp
                      with_reducible rfl
                     rotate_left
                     ·simp only [Act.put, List.setIfInBounds_toArray, List.set_cons_zero, List.set_cons_succ, i64_w, i32_w]
                      rfl
                     refine pure_ (i := 14) (N := some 103) (v := ?_) (a' := ?_) #[true, true, true, true, true, true, true, true, true, true, true, true, true, true, true, false, false, false, false, false, false] rfl rfl (any_of HT_.out (by kernel_rfl)) (fun _ _ _ h => h) (Or.inl ⟨by rfl, ?_⟩) ?_ ?_
                     rotate_left
                     ·intro w'
                      go_simp
                      with_reducible rfl
                     rotate_left
                     ·simp only [Act.put, List.setIfInBounds_toArray, List.set_cons_zero, List.set_cons_succ, i64_w, i32_w]
                      rfl
                     refine pure_ (i := 15) (N := some 104) (v := ?_) (a' := ?_) #[true, true, true, true, true, true, true, true, true, true, true, true, true, true, true, true, false, false, false, false, false] rfl rfl (any_of HT_.out (by kernel_rfl)) (fun _ _ _ h => h) (Or.inl ⟨by rfl, ?_⟩) ?_ ?_
                     rotate_left
                     ·intro w'
                      go_simp
                      with_reducible rfl
                     rotate_left
                     ·simp only [Act.put, List.setIfInBounds_toArray, List.set_cons_zero, List.set_cons_succ, i64_w, i32_w]
                      rfl
                     refine pure_ (i := 16) (N := some 105) (v := ?_) (a' := ?_) #[true, true, true, true, true, true, true, true, true, true, true, true, true, true, true, true, true, false, false, false, false] rfl rfl (any_of HT_.out (by kernel_rfl)) (fun _ _ _ h => h) (Or.inl ⟨by rfl, ?_⟩) ?_ ?_
                     rotate_left
                     ·intro w'
                      go_simp
                      with_reducible rfl
                     rotate_left
                     ·simp only [Act.put, List.setIfInBounds_toArray, List.set_cons_zero, List.set_cons_succ, i64_w, i32_w]
                      rfl
                     refine pure_ (i := 17) (N := some 106) (v := ?_) (a' := ?_) #[true, true, true, true, true, true, true, true, true, true, true, true, true, true, true, true, true, true, false, false, false] rfl rfl (any_of HT_.out (by kernel_rfl)) (fun _ _ _ h => h) (Or.inl ⟨by rfl, ?_⟩) ?_ ?_
                     rotate_left
                     ·intro w'
                      go_simp
                      with_reducible rfl
                     rotate_left
                     ·simp only [Act.put, List.setIfInBounds_toArray, List.set_cons_zero, List.set_cons_succ, i64_w, i32_w]
                      rfl
                     refine one_ (i := 18) (N := some 107) #[true, true, true, true, true, true, true, true, true, true, true, true, true, true, true, true, true, true, true, false, false] rfl rfl (one_of HT_.out (by kernel_rfl)) (by decide) (fun K hK => ?_)
                     refine goes_ Tryd.func12 (by kernel_rfl) rfl #[] (by first | rfl | exact wanted_on rfl rfl rfl (by first | rfl | (simp [*]; done) | (simp [*, IntKind.wrap_u32]; done))) rfl rfl (by (try simp only [List.map_toArray, List.map_cons, List.map_nil]); first | done | rfl | (simp only [List.length_drop, List.length_take]; rfl)) ?_
                     with_reducible refine (gangwaylaw06_fixed.calls kj12  t411 _ ?sideL A70.out).mono ?_
                     case sideL => exact laid_below HLD.out (by repeat (first | (with_reducible first | exact HB.out | apply below_alloc | apply pw_below_drewN | apply below_drew1 | refine below_set ?_ GE370.out | refine below_set ?_ GE406.out) | exact HB.out))
                     rintro e w78 ⟨rfl, hb⟩
                     refine ⟨_, rfl, ?_⟩
                     have n0_ := Aside0.mk (blk_below (g := gb370) (o := .cells #[.int .i64 t371, .int .i64 t372, .bool t373, .bool t374, .int .i64 t375, .int .i64 t376, .int .i64 t377, .int .u32 t378, .int .u32 t379, .string t380] 24 (0, 0)) (by (with_reducible repeat (first | refine blk_drewN ?_ _ | refine blk_drew ?_ | refine blk_alloc ?_ _)); exact BK370.out) hb)
                     have n1_ := Aside0.mk (blk_below (g := gb406) (o := .cells #[.int .i64 t395, .int .i64 t396, .bool t397, .bool t398, .int .i64 t399, .int .i64 t400, .int .i64 t401, .int .u32 t402, .int .u32 t403, .string t404] 24 (0, 0)) (by (with_reducible repeat (first | refine blk_drewN ?_ _ | refine blk_drew ?_ | refine blk_alloc ?_ _)); exact BK406.out) hb)
                     have n2_ := Aside0.mk (below_step (by repeat (first | (with_reducible first | exact HB.out | apply below_alloc | apply pw_below_drewN | apply below_drew1 | refine below_set ?_ GE370.out | refine below_set ?_ GE406.out) | exact HB.out)) hb)
                     clear BK370
                     clear BK406
                     clear HB
                     have BK370 := n0_
                     have BK406 := n1_
                     have HB := n2_
                     clear n0_ n1_ n2_
                     (try clear hb)
                     (try clear hb2)
                     (try clear hk)
                     (try clear hi)
                     refine hK.out _ _ trivial (fun hHeld => ?_)
                     clear hK K
                     refine norm_ (a' := ?_) ?_ ?_
                     rotate_left
                     ·show Act.put _ (some 107) _ = _
                      simp only [Act.put, List.setIfInBounds_toArray, List.set_cons_zero, List.set_cons_succ, i64_w, i32_w]
                      rfl
                     refine pure_ (i := 19) (N := some 108) (v := ?_) (a' := ?_) #[true, true, true, true, true, true, true, true, true, true, true, true, true, true, true, true, true, true, true, true, false] rfl rfl (any_of HT_.out (by kernel_rfl)) (fun _ _ _ h => h) (Or.inl ⟨by rfl, ?_⟩) ?_ ?_
                     rotate_left
                     ·intro w'
                      go_simp
                      with_reducible rfl
                     rotate_left
                     ·simp only [Act.put, List.setIfInBounds_toArray, List.set_cons_zero, List.set_cons_succ, i64_w, i32_w]
                      rfl
                     refine pure_ (i := 20) (N := some 4) (v := ?_) (a' := ?_) #[true, true, true, true, true, true, true, true, true, true, true, true, true, true, true, true, true, true, true, true, true] rfl rfl (any_of HT_.out (by kernel_rfl)) (fun _ _ _ h => h) (Or.inl ⟨by rfl, ?_⟩) ?_ ?_
                     rotate_left
                     ·intro w'
                      go_simp
                      with_reducible rfl
                     rotate_left
                     ·simp only [Act.put, List.setIfInBounds_toArray, List.set_cons_zero, List.set_cons_succ, i64_w, i32_w]
                      rfl
                     refine done_ (done_of HT_.out (by kernel_rfl)) ?_
                     try go_wp2
                     go_ret
                     exact ⟨by first | rfl | (simp [errW_none, errW_some] <;> rfl) | (simp [*, errW_none, errW_some] <;> rfl) | (simp [*, IntKind.wrap_u32]; done) | (simp_all [IntKind.wrap_u32]; done), by repeat (first | (with_reducible first | exact HB.out | apply below_alloc | apply pw_below_drewN | apply below_drew1 | refine below_set ?_ GE370.out | refine below_set ?_ GE406.out) | exact HB.out)⟩
                    ·rw [if_neg c69] at H
                     have c69b0 : ((t408.extract 12 t408.size).toList == (x1_3.extract 12 ((t408.size : Int) : Int).toNat).toList) = false := beq_eq_false_iff_ne.mpr c69
                     have c69b1 : ((t408.extract 12 t408.size).toList != (x1_3.extract 12 ((t408.size : Int) : Int).toNat).toList) = true := bne_iff_ne.mpr c69
                     exact absurd H (by simp)
                   ·rw [if_neg c68] at H
                    exact absurd H (by simp)
                  ·rw [if_neg c65] at H
                   have c65b0 : ((t408.extract 0 10).toList == (x1_3.extract 0 10).toList) = false := beq_eq_false_iff_ne.mpr c65
                   have c65b1 : ((t408.extract 0 10).toList != (x1_3.extract 0 10).toList) = true := bne_iff_ne.mpr c65
                   exact absurd H (by simp)
                 ·rw [if_neg c64] at H
                  exact absurd H (by simp)
                ·rw [if_neg c62] at H
                 exact absurd H (by simp)
               ·rw [if_neg c61] at H
                exact absurd H (by simp)
              ·rw [if_neg c60] at H
               have c60b0 : ((x1_3.extract 10 12).toList == ([255, 255] : List UInt8)) = false := beq_eq_false_iff_ne.mpr c60
               have c60b1 : ((x1_3.extract 10 12).toList != ([255, 255] : List UInt8)) = true := bne_iff_ne.mpr c60
               exact absurd H (by simp)
             ·rw [if_neg c57] at H
              have c57b0 : ((t408.extract 10 12).toList == ([0, 0] : List UInt8)) = false := beq_eq_false_iff_ne.mpr c57
              have c57b1 : ((t408.extract 10 12).toList != ([0, 0] : List UInt8)) = true := bne_iff_ne.mpr c57
              exact absurd H (by simp)
           ·rw [if_neg c35] at H
            exact absurd H (by simp)
          ·rw [if_neg c33] at H
           exact absurd H (by simp)
         ·rw [if_neg c32] at H
          exact absurd H (by simp)
      ·rw [if_neg c29] at H
       exact absurd H (by simp)
     ·rw [if_neg c27] at H
      have c27b0 : (t405 == 0) = false := beq_eq_false_iff_ne.mpr c27
      have c27b1 : (t405 != 0) = true := bne_iff_ne.mpr c27
      by_cases c79 : (t395 == 0 && (t396 == 0 && (!t397 && (!t398 && (t399 == 0 && (t400 == 0 && (t401 == 0 && (t402 == 0 && (t403 == 0 && (t404.toList == ([] : List UInt8))))))))))) = true
      ·rw [if_pos c79] at H
       have c79b0 : (t395 == 0 && (t396 == 0 && (!t397 && (!t398 && (t399 == 0 && (t400 == 0 && (t401 == 0 && (t402 == 0 && (t403 == 0 && (t404.toList == ([] : List UInt8))))))))))) = true := c79
       try (have c79p := eq_true (show t395 = 0 ∧ (t396 = 0 ∧ (t397 = false ∧ (t398 = false ∧ (t399 = 0 ∧ (t400 = 0 ∧ (t401 = 0 ∧ (t402 = 0 ∧ (t403 = 0 ∧ (t404.toList = ([] : List UInt8)))))))))) from by simpa using c79))
       (try (have c79b1 : decide (t395 = 0 && (t396 == 0 && (!t397 && (!t398 && (t399 == 0 && (t400 == 0 && (t401 == 0 && (t402 == 0 && (t403 == 0 && (t404.toList == ([] : List UInt8))))))))))) = true := by simpa using c79))
       (try (have c79b2 : (t395 == 0 && (t396 == 0 && (!t397 && (!t398 && (t399 == 0 && (t400 == 0 && (t401 == 0 && (t402 == 0 && (t403 == 0 && (t404.toList == ([] : List UInt8))))))))))) = true := by simpa using c79))
       clear c79
       replace H := Option.bind_eq_some_iff.mp H
       obtain ⟨t407, A800, H⟩ := H
       replace H : (some t407) = some r := H
       have A80 := Aside0.mk A800
       clear A800
       obtain rfl := Option.some.inj H
       go_wp2_with (first | ((with_reducible refine gate_callee (f := 16) rfl ?_); refine goesL_ (some 44) rfl rfl Tryd.func16 (by kernel_rfl) rfl #[.string x1_3] rfl (by (try simp only [List.map_toArray, List.map_cons, List.map_nil]); first | done | rfl | (simp only [List.length_drop, List.length_take]; rfl)) ?_; (with_reducible refine (inet_Parse.calls kj12 x1_3 t395 t396 t397 t398 t399 t400 t401 t402 t403 t404 t405 _ ?sideL A26.out).mono ?_); (case sideL => exact laid_below HLD.out (by repeat (first | (with_reducible first | exact HB.out | apply below_alloc | apply pw_below_drewN | apply below_drew1 | refine below_set ?_ GE370.out) | exact HB.out))); rintro e w81 ⟨rfl, hb⟩; refine ⟨_, rfl, ?_⟩; have n0_ := Aside0.mk (blk_below (g := gb370) (o := .cells #[.int .i64 t371, .int .i64 t372, .bool t373, .bool t374, .int .i64 t375, .int .i64 t376, .int .i64 t377, .int .u32 t378, .int .u32 t379, .string t380] 24 (0, 0)) (by (with_reducible repeat (first | refine blk_drewN ?_ _ | refine blk_drew ?_ | refine blk_alloc ?_ _)); exact BK370.out) hb); have n1_ := Aside0.mk (below_step (by repeat (first | (with_reducible first | exact HB.out | apply below_alloc | apply pw_below_drewN | apply below_drew1 | refine below_set ?_ GE370.out) | exact HB.out)) hb); clear BK370; clear HB; have BK370 := n0_; have HB := n1_; clear n0_ n1_; have hcy1_370_0 := (show World.cell? _ ⟨gb370, 0, none⟩ = some (.int .i64 t371) from (blk_cell BK370.out 0).trans rfl); have hcy1_370_1 := (show World.cell? _ ⟨gb370, 1, none⟩ = some (.int .i64 t372) from (blk_cell BK370.out 1).trans rfl); have hcy1_370_2 := (show World.cell? _ ⟨gb370, 2, none⟩ = some (.bool t373) from (blk_cell BK370.out 2).trans rfl); have hcy1_370_3 := (show World.cell? _ ⟨gb370, 3, none⟩ = some (.bool t374) from (blk_cell BK370.out 3).trans rfl); have hcy1_370_4 := (show World.cell? _ ⟨gb370, 4, none⟩ = some (.int .i64 t375) from (blk_cell BK370.out 4).trans rfl); have hcy1_370_5 := (show World.cell? _ ⟨gb370, 5, none⟩ = some (.int .i64 t376) from (blk_cell BK370.out 5).trans rfl); have hcy1_370_6 := (show World.cell? _ ⟨gb370, 6, none⟩ = some (.int .i64 t377) from (blk_cell BK370.out 6).trans rfl); have hcy1_370_7 := (show World.cell? _ ⟨gb370, 7, none⟩ = some (.int .u32 t378) from (blk_cell BK370.out 7).trans rfl); have hcy1_370_8 := (show World.cell? _ ⟨gb370, 8, none⟩ = some (.int .u32 t379) from (blk_cell BK370.out 8).trans rfl); have hcy1_370_9 := (show World.cell? _ ⟨gb370, 9, none⟩ = some (.string t380) from (blk_cell BK370.out 9).trans rfl); (try clear hb); (try clear hb2); (try clear hk); (try clear hi)) | ((with_reducible refine gate_dst (N := 9) rfl ?_); (try (refine gate_guard (by rfl) ?_; dsimp only)); refine box_event ?hg (N := 9) ?hd (cs := #[.int .i64 0, .int .i64 0, .bool false, .bool false, .int .i64 0, .int .i64 0, .int .i64 0, .int .u32 0, .int .u32 0, .string (⟨#[]⟩ : ByteArray)]) (t := 24) ?hr ?_; (case hd => rfl); (case hg => rfl); (case hr => first | (go_simp; done) | (go_simp; rfl)); intro gb406 hg w82 hbox hb; have n0_ := Aside0.mk (blk_below (g := gb370) (o := .cells #[.int .i64 t371, .int .i64 t372, .bool t373, .bool t374, .int .i64 t375, .int .i64 t376, .int .i64 t377, .int .u32 t378, .int .u32 t379, .string t380] 24 (0, 0)) (by (with_reducible repeat (first | refine blk_drewN ?_ _ | refine blk_drew ?_ | refine blk_alloc ?_ _)); exact BK370.out) hb); have n1_ := Aside0.mk (below_step (by repeat (first | (with_reducible first | exact HB.out | apply below_alloc | apply pw_below_drewN | apply below_drew1 | refine below_set ?_ GE370.out) | exact HB.out)) hb); have n2_ := Aside0.mk (hbox); have n3_ := Aside0.mk ((by rw [hg]; exact (below_size (by repeat (first | (with_reducible first | exact HB.out | apply below_alloc | apply pw_below_drewN | apply below_drew1 | refine below_set ?_ GE370.out) | exact HB.out))) : w.heap.size ≤ gb406)); have n4_ := Aside0.mk ((by rw [hg]; exact (below_size (by repeat (first | (with_reducible first | exact HB.out | apply below_alloc | apply pw_below_drewN | apply below_drew1 | refine below_set ?_ GE370.out) | exact HB.out))) : w.heap.size ≤ gb406)); have n5_ := Aside0.mk ((by rw [hg]; exact Nat.ne_of_lt (blk_lt (g := gb370) (o := .cells #[.int .i64 t371, .int .i64 t372, .bool t373, .bool t374, .int .i64 t375, .int .i64 t376, .int .i64 t377, .int .u32 t378, .int .u32 t379, .string t380] 24 (0, 0)) (by (with_reducible repeat (first | refine blk_drewN ?_ _ | refine blk_drew ?_ | refine blk_alloc ?_ _)); exact BK370.out)) : gb370 ≠ gb406)); have n6_ := Aside0.mk ((by rw [hg]; exact Nat.ne_of_gt (blk_lt (g := gb370) (o := .cells #[.int .i64 t371, .int .i64 t372, .bool t373, .bool t374, .int .i64 t375, .int .i64 t376, .int .i64 t377, .int .u32 t378, .int .u32 t379, .string t380] 24 (0, 0)) (by (with_reducible repeat (first | refine blk_drewN ?_ _ | refine blk_drew ?_ | refine blk_alloc ?_ _)); exact BK370.out)) : gb406 ≠ gb370)); clear BK370; clear HB; have BK370 := n0_; have HB := n1_; have BK406 := n2_; have GW406 := n3_; have GE406 := n4_; have NB370_406 := n5_; have NB406_370 := n6_; clear n0_ n1_ n2_ n3_ n4_ n5_ n6_; have hcy2_370_0 := (show World.cell? _ ⟨gb370, 0, none⟩ = some (.int .i64 t371) from (blk_cell BK370.out 0).trans rfl); have hcy2_370_1 := (show World.cell? _ ⟨gb370, 1, none⟩ = some (.int .i64 t372) from (blk_cell BK370.out 1).trans rfl); have hcy2_370_2 := (show World.cell? _ ⟨gb370, 2, none⟩ = some (.bool t373) from (blk_cell BK370.out 2).trans rfl); have hcy2_370_3 := (show World.cell? _ ⟨gb370, 3, none⟩ = some (.bool t374) from (blk_cell BK370.out 3).trans rfl); have hcy2_370_4 := (show World.cell? _ ⟨gb370, 4, none⟩ = some (.int .i64 t375) from (blk_cell BK370.out 4).trans rfl); have hcy2_370_5 := (show World.cell? _ ⟨gb370, 5, none⟩ = some (.int .i64 t376) from (blk_cell BK370.out 5).trans rfl); have hcy2_370_6 := (show World.cell? _ ⟨gb370, 6, none⟩ = some (.int .i64 t377) from (blk_cell BK370.out 6).trans rfl); have hcy2_370_7 := (show World.cell? _ ⟨gb370, 7, none⟩ = some (.int .u32 t378) from (blk_cell BK370.out 7).trans rfl); have hcy2_370_8 := (show World.cell? _ ⟨gb370, 8, none⟩ = some (.int .u32 t379) from (blk_cell BK370.out 8).trans rfl); have hcy2_370_9 := (show World.cell? _ ⟨gb370, 9, none⟩ = some (.string t380) from (blk_cell BK370.out 9).trans rfl); clear hb hbox hg; have hnb83 := NB406_370.out; have hnc83 := NB370_406.out; have hcz84_0 : w82.cell? ⟨gb406, 0, none⟩ = some (.int .i64 0) := (blk_cell BK406.out 0).trans rfl; have hcz84_1 : w82.cell? ⟨gb406, 1, none⟩ = some (.int .i64 0) := (blk_cell BK406.out 1).trans rfl; have hcz84_2 : w82.cell? ⟨gb406, 2, none⟩ = some (.bool false) := (blk_cell BK406.out 2).trans rfl; have hcz84_3 : w82.cell? ⟨gb406, 3, none⟩ = some (.bool false) := (blk_cell BK406.out 3).trans rfl; have hcz84_4 : w82.cell? ⟨gb406, 4, none⟩ = some (.int .i64 0) := (blk_cell BK406.out 4).trans rfl; have hcz84_5 : w82.cell? ⟨gb406, 5, none⟩ = some (.int .i64 0) := (blk_cell BK406.out 5).trans rfl; have hcz84_6 : w82.cell? ⟨gb406, 6, none⟩ = some (.int .i64 0) := (blk_cell BK406.out 6).trans rfl; have hcz84_7 : w82.cell? ⟨gb406, 7, none⟩ = some (.int .u32 0) := (blk_cell BK406.out 7).trans rfl; have hcz84_8 : w82.cell? ⟨gb406, 8, none⟩ = some (.int .u32 0) := (blk_cell BK406.out 8).trans rfl; have hcz84_9 : w82.cell? ⟨gb406, 9, none⟩ = some (.string (⟨#[]⟩ : ByteArray)) := (blk_cell BK406.out 9).trans rfl; have hfz84_0 := blk_frozen BK406.out 0; have hfz84_1 := blk_frozen BK406.out 1; have hfz84_2 := blk_frozen BK406.out 2; have hfz84_3 := blk_frozen BK406.out 3; have hfz84_4 := blk_frozen BK406.out 4; have hfz84_5 := blk_frozen BK406.out 5; have hfz84_6 := blk_frozen BK406.out 6; have hfz84_7 := blk_frozen BK406.out 7; have hfz84_8 := blk_frozen BK406.out 8; have hfz84_9 := blk_frozen BK406.out 9) | (obtain ⟨w82f, hgw_⟩ : ∃ y, y = (World.setCell (World.setCell (World.setCell (World.setCell w82 ⟨gb406, 0, none⟩ (.int .i64 t395)) ⟨gb406, 1, none⟩ (.int .i64 t396)) ⟨gb406, 2, none⟩ (.bool t397)) ⟨gb406, 3, none⟩ (.bool t398)) := ⟨_, rfl⟩; rw [← hgw_]; have m0_ := Aside0.mk (show w82f.heap[gb370]? = some (.cells #[.int .i64 t371, .int .i64 t372, .bool t373, .bool t374, .int .i64 t375, .int .i64 t376, .int .i64 t377, .int .u32 t378, .int .u32 t379, .string t380] 24 (0, 0)) from (by rw [hgw_]; refine blk_far ?_ NB370_406.out _; (with_reducible repeat (first | refine blk_drewN ?_ _ | refine blk_drew ?_ | refine blk_alloc ?_ _)); refine blk_far ?_ NB370_406.out _; (with_reducible repeat (first | refine blk_drewN ?_ _ | refine blk_drew ?_ | refine blk_alloc ?_ _)); refine blk_far ?_ NB370_406.out _; (with_reducible repeat (first | refine blk_drewN ?_ _ | refine blk_drew ?_ | refine blk_alloc ?_ _)); refine blk_far ?_ NB370_406.out _; (with_reducible repeat (first | refine blk_drewN ?_ _ | refine blk_drew ?_ | refine blk_alloc ?_ _)); exact BK370.out)); have m1_ := Aside0.mk (show w82f.heap[gb406]? = some (.cells #[.int .i64 t395, .int .i64 t396, .bool t397, .bool t398, .int .i64 0, .int .i64 0, .int .i64 0, .int .u32 0, .int .u32 0, .string (⟨#[]⟩ : ByteArray)] 24 (0, 0)) from (by rw [hgw_]; refine blk_put (cs := #[.int .i64 t395, .int .i64 t396, .bool t397, .bool false, .int .i64 0, .int .i64 0, .int .i64 0, .int .u32 0, .int .u32 0, .string (⟨#[]⟩ : ByteArray)]) ?_ 3 _ rfl; (with_reducible repeat (first | refine blk_drewN ?_ _ | refine blk_drew ?_ | refine blk_alloc ?_ _)); refine blk_put (cs := #[.int .i64 t395, .int .i64 t396, .bool false, .bool false, .int .i64 0, .int .i64 0, .int .i64 0, .int .u32 0, .int .u32 0, .string (⟨#[]⟩ : ByteArray)]) ?_ 2 _ rfl; (with_reducible repeat (first | refine blk_drewN ?_ _ | refine blk_drew ?_ | refine blk_alloc ?_ _)); refine blk_put (cs := #[.int .i64 t395, .int .i64 0, .bool false, .bool false, .int .i64 0, .int .i64 0, .int .i64 0, .int .u32 0, .int .u32 0, .string (⟨#[]⟩ : ByteArray)]) ?_ 1 _ rfl; (with_reducible repeat (first | refine blk_drewN ?_ _ | refine blk_drew ?_ | refine blk_alloc ?_ _)); refine blk_put (cs := #[.int .i64 0, .int .i64 0, .bool false, .bool false, .int .i64 0, .int .i64 0, .int .i64 0, .int .u32 0, .int .u32 0, .string (⟨#[]⟩ : ByteArray)]) ?_ 0 _ rfl; (with_reducible repeat (first | refine blk_drewN ?_ _ | refine blk_drew ?_ | refine blk_alloc ?_ _)); exact BK406.out)); have mb_ := Aside0.mk (show Below w.heap.size w w82f from (by rw [hgw_]; exact (by repeat (first | (with_reducible first | exact HB.out | apply below_alloc | apply pw_below_drewN | apply below_drew1 | refine below_set ?_ GE370.out | refine below_set ?_ GE406.out) | exact HB.out)))); clear BK370; have BK370 := m0_; clear m0_; clear BK406; have BK406 := m1_; clear m1_; clear HB; have HB := mb_; clear mb_; clear hgw_; have hcf370_0 : w82f.cell? ⟨gb370, 0, none⟩ = some (.int .i64 t371) := (blk_cell BK370.out 0).trans rfl; have hcf370_1 : w82f.cell? ⟨gb370, 1, none⟩ = some (.int .i64 t372) := (blk_cell BK370.out 1).trans rfl; have hcf370_2 : w82f.cell? ⟨gb370, 2, none⟩ = some (.bool t373) := (blk_cell BK370.out 2).trans rfl; have hcf370_3 : w82f.cell? ⟨gb370, 3, none⟩ = some (.bool t374) := (blk_cell BK370.out 3).trans rfl; have hcf370_4 : w82f.cell? ⟨gb370, 4, none⟩ = some (.int .i64 t375) := (blk_cell BK370.out 4).trans rfl; have hcf370_5 : w82f.cell? ⟨gb370, 5, none⟩ = some (.int .i64 t376) := (blk_cell BK370.out 5).trans rfl; have hcf370_6 : w82f.cell? ⟨gb370, 6, none⟩ = some (.int .i64 t377) := (blk_cell BK370.out 6).trans rfl; have hcf370_7 : w82f.cell? ⟨gb370, 7, none⟩ = some (.int .u32 t378) := (blk_cell BK370.out 7).trans rfl; have hcf370_8 : w82f.cell? ⟨gb370, 8, none⟩ = some (.int .u32 t379) := (blk_cell BK370.out 8).trans rfl; have hcf370_9 : w82f.cell? ⟨gb370, 9, none⟩ = some (.string t380) := (blk_cell BK370.out 9).trans rfl; have hff370_0 := blk_frozen BK370.out 0; have hff370_1 := blk_frozen BK370.out 1; have hff370_2 := blk_frozen BK370.out 2; have hff370_3 := blk_frozen BK370.out 3; have hff370_4 := blk_frozen BK370.out 4; have hff370_5 := blk_frozen BK370.out 5; have hff370_6 := blk_frozen BK370.out 6; have hff370_7 := blk_frozen BK370.out 7; have hff370_8 := blk_frozen BK370.out 8; have hff370_9 := blk_frozen BK370.out 9; have hcf406_0 : w82f.cell? ⟨gb406, 0, none⟩ = some (.int .i64 t395) := (blk_cell BK406.out 0).trans rfl; have hcf406_1 : w82f.cell? ⟨gb406, 1, none⟩ = some (.int .i64 t396) := (blk_cell BK406.out 1).trans rfl; have hcf406_2 : w82f.cell? ⟨gb406, 2, none⟩ = some (.bool t397) := (blk_cell BK406.out 2).trans rfl; have hcf406_3 : w82f.cell? ⟨gb406, 3, none⟩ = some (.bool t398) := (blk_cell BK406.out 3).trans rfl; have hcf406_4 : w82f.cell? ⟨gb406, 4, none⟩ = some (.int .i64 0) := (blk_cell BK406.out 4).trans rfl; have hcf406_5 : w82f.cell? ⟨gb406, 5, none⟩ = some (.int .i64 0) := (blk_cell BK406.out 5).trans rfl; have hcf406_6 : w82f.cell? ⟨gb406, 6, none⟩ = some (.int .i64 0) := (blk_cell BK406.out 6).trans rfl; have hcf406_7 : w82f.cell? ⟨gb406, 7, none⟩ = some (.int .u32 0) := (blk_cell BK406.out 7).trans rfl; have hcf406_8 : w82f.cell? ⟨gb406, 8, none⟩ = some (.int .u32 0) := (blk_cell BK406.out 8).trans rfl; have hcf406_9 : w82f.cell? ⟨gb406, 9, none⟩ = some (.string (⟨#[]⟩ : ByteArray)) := (blk_cell BK406.out 9).trans rfl; have hff406_0 := blk_frozen BK406.out 0; have hff406_1 := blk_frozen BK406.out 1; have hff406_2 := blk_frozen BK406.out 2; have hff406_3 := blk_frozen BK406.out 3; have hff406_4 := blk_frozen BK406.out 4; have hff406_5 := blk_frozen BK406.out 5; have hff406_6 := blk_frozen BK406.out 6; have hff406_7 := blk_frozen BK406.out 7; have hff406_8 := blk_frozen BK406.out 8; have hff406_9 := blk_frozen BK406.out 9) | (go_at_call 12; (with_reducible refine (gangwaylaw06_fixed.calls kj12  t407 _ ?sideL A80.out).mono ?_); (case sideL => exact laid_below HLD.out (by repeat (first | (with_reducible first | exact HB.out | apply below_alloc | apply pw_below_drewN | apply below_drew1 | refine below_set ?_ GE370.out | refine below_set ?_ GE406.out) | exact HB.out))); rintro e w85 ⟨rfl, hb⟩; have n0_ := Aside0.mk (blk_below (g := gb370) (o := .cells #[.int .i64 t371, .int .i64 t372, .bool t373, .bool t374, .int .i64 t375, .int .i64 t376, .int .i64 t377, .int .u32 t378, .int .u32 t379, .string t380] 24 (0, 0)) (by (with_reducible repeat (first | refine blk_drewN ?_ _ | refine blk_drew ?_ | refine blk_alloc ?_ _)); refine blk_far ?_ NB370_406.out _; (with_reducible repeat (first | refine blk_drewN ?_ _ | refine blk_drew ?_ | refine blk_alloc ?_ _)); refine blk_far ?_ NB370_406.out _; (with_reducible repeat (first | refine blk_drewN ?_ _ | refine blk_drew ?_ | refine blk_alloc ?_ _)); refine blk_far ?_ NB370_406.out _; (with_reducible repeat (first | refine blk_drewN ?_ _ | refine blk_drew ?_ | refine blk_alloc ?_ _)); refine blk_far ?_ NB370_406.out _; (with_reducible repeat (first | refine blk_drewN ?_ _ | refine blk_drew ?_ | refine blk_alloc ?_ _)); refine blk_far ?_ NB370_406.out _; (with_reducible repeat (first | refine blk_drewN ?_ _ | refine blk_drew ?_ | refine blk_alloc ?_ _)); refine blk_far ?_ NB370_406.out _; (with_reducible repeat (first | refine blk_drewN ?_ _ | refine blk_drew ?_ | refine blk_alloc ?_ _)); exact BK370.out) hb); have n1_ := Aside0.mk (blk_below (g := gb406) (o := .cells #[.int .i64 t395, .int .i64 t396, .bool t397, .bool t398, .int .i64 t399, .int .i64 t400, .int .i64 t401, .int .u32 t402, .int .u32 t403, .string t404] 24 (0, 0)) (by (with_reducible repeat (first | refine blk_drewN ?_ _ | refine blk_drew ?_ | refine blk_alloc ?_ _)); refine blk_put (cs := #[.int .i64 t395, .int .i64 t396, .bool t397, .bool t398, .int .i64 t399, .int .i64 t400, .int .i64 t401, .int .u32 t402, .int .u32 t403, .string (⟨#[]⟩ : ByteArray)]) ?_ 9 _ rfl; (with_reducible repeat (first | refine blk_drewN ?_ _ | refine blk_drew ?_ | refine blk_alloc ?_ _)); refine blk_put (cs := #[.int .i64 t395, .int .i64 t396, .bool t397, .bool t398, .int .i64 t399, .int .i64 t400, .int .i64 t401, .int .u32 t402, .int .u32 0, .string (⟨#[]⟩ : ByteArray)]) ?_ 8 _ rfl; (with_reducible repeat (first | refine blk_drewN ?_ _ | refine blk_drew ?_ | refine blk_alloc ?_ _)); refine blk_put (cs := #[.int .i64 t395, .int .i64 t396, .bool t397, .bool t398, .int .i64 t399, .int .i64 t400, .int .i64 t401, .int .u32 0, .int .u32 0, .string (⟨#[]⟩ : ByteArray)]) ?_ 7 _ rfl; (with_reducible repeat (first | refine blk_drewN ?_ _ | refine blk_drew ?_ | refine blk_alloc ?_ _)); refine blk_put (cs := #[.int .i64 t395, .int .i64 t396, .bool t397, .bool t398, .int .i64 t399, .int .i64 t400, .int .i64 0, .int .u32 0, .int .u32 0, .string (⟨#[]⟩ : ByteArray)]) ?_ 6 _ rfl; (with_reducible repeat (first | refine blk_drewN ?_ _ | refine blk_drew ?_ | refine blk_alloc ?_ _)); refine blk_put (cs := #[.int .i64 t395, .int .i64 t396, .bool t397, .bool t398, .int .i64 t399, .int .i64 0, .int .i64 0, .int .u32 0, .int .u32 0, .string (⟨#[]⟩ : ByteArray)]) ?_ 5 _ rfl; (with_reducible repeat (first | refine blk_drewN ?_ _ | refine blk_drew ?_ | refine blk_alloc ?_ _)); refine blk_put (cs := #[.int .i64 t395, .int .i64 t396, .bool t397, .bool t398, .int .i64 0, .int .i64 0, .int .i64 0, .int .u32 0, .int .u32 0, .string (⟨#[]⟩ : ByteArray)]) ?_ 4 _ rfl; (with_reducible repeat (first | refine blk_drewN ?_ _ | refine blk_drew ?_ | refine blk_alloc ?_ _)); exact BK406.out) hb); have n2_ := Aside0.mk (below_step (by repeat (first | (with_reducible first | exact HB.out | apply below_alloc | apply pw_below_drewN | apply below_drew1 | refine below_set ?_ GE370.out | refine below_set ?_ GE406.out) | exact HB.out)) hb); clear BK370; clear BK406; clear HB; have BK370 := n0_; have BK406 := n1_; have HB := n2_; clear n0_ n1_ n2_; have hcy3_370_0 := (show World.cell? _ ⟨gb370, 0, none⟩ = some (.int .i64 t371) from (blk_cell BK370.out 0).trans rfl); have hcy3_370_1 := (show World.cell? _ ⟨gb370, 1, none⟩ = some (.int .i64 t372) from (blk_cell BK370.out 1).trans rfl); have hcy3_370_2 := (show World.cell? _ ⟨gb370, 2, none⟩ = some (.bool t373) from (blk_cell BK370.out 2).trans rfl); have hcy3_370_3 := (show World.cell? _ ⟨gb370, 3, none⟩ = some (.bool t374) from (blk_cell BK370.out 3).trans rfl); have hcy3_370_4 := (show World.cell? _ ⟨gb370, 4, none⟩ = some (.int .i64 t375) from (blk_cell BK370.out 4).trans rfl); have hcy3_370_5 := (show World.cell? _ ⟨gb370, 5, none⟩ = some (.int .i64 t376) from (blk_cell BK370.out 5).trans rfl); have hcy3_370_6 := (show World.cell? _ ⟨gb370, 6, none⟩ = some (.int .i64 t377) from (blk_cell BK370.out 6).trans rfl); have hcy3_370_7 := (show World.cell? _ ⟨gb370, 7, none⟩ = some (.int .u32 t378) from (blk_cell BK370.out 7).trans rfl); have hcy3_370_8 := (show World.cell? _ ⟨gb370, 8, none⟩ = some (.int .u32 t379) from (blk_cell BK370.out 8).trans rfl); have hcy3_370_9 := (show World.cell? _ ⟨gb370, 9, none⟩ = some (.string t380) from (blk_cell BK370.out 9).trans rfl); (try clear hb); (try clear hb2); (try clear hk); (try clear hi)))
       go_ret
       exact ⟨by first | rfl | (simp [errW_none, errW_some] <;> rfl) | (simp [*, errW_none, errW_some] <;> rfl) | (simp [*, IntKind.wrap_u32]; done) | (simp_all [IntKind.wrap_u32]; done), by repeat (first | (with_reducible first | exact HB.out | apply below_alloc | apply pw_below_drewN | apply below_drew1 | refine below_set ?_ GE370.out | refine below_set ?_ GE406.out) | exact HB.out)⟩
      ·rw [if_neg c79] at H
       exact absurd H (by simp)

end Go.Proofs.YtigagipeaheclaaDoor.P
