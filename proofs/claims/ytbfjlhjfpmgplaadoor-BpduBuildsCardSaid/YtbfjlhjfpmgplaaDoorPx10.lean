-- squeezed
-- Written by wip/hprint.py (this session's program) through the kit's print program; hand contracts are marked 'by hand'.
import Derived.Test.YtbfjlhjfpmgplaaDoorRow
import Derived.Test.YtbfjlhjfpmgplaaDoorRowB
import Derived.Test.YtbfjlhjfpmgplaaDoorPx0
import Derived.Test.YtbfjlhjfpmgplaaDoorPx1
import Derived.Test.YtbfjlhjfpmgplaaDoorPx9
namespace Go.Proofs.YtbfjlhjfpmgplaaDoor.P
open Go.RowKit Go.Proofs.YtbfjlhjfpmgplaaDoorW.PrintWords Go.Proofs.YtbfjlhjfpmgplaaDoorW.PrintLast Go.Proofs.YtbfjlhjfpmgplaaDoorW.PrintMore
attribute [local go_sem] max2_int min2_int max_two min_two max_three min_three max_four min_four   -- for this text's walks alone
set_option linter.unusedVariables false
set_option linter.unusedSimpArgs false

attribute [local go_sem high] eqA24
/-! ### gangwayref09_Check: function 12 -/
mutual
def gangwayref09_Check.j0 : Nat → Bool → Int → Bool → Bool → Bool → Bool → Bool → Bool → Int → Int → Int → Int → Int → Int → Int → Int → Int → Int → Bool → Bool → Bool → Bool → Bool → Bool → Int → Int → Int → Int → Int → Int → Int → Int → Int → Option (Int)
 | 0, _, _, _, _, _, _, _, _, _, _, _, _, _, _, _, _, _, _, _, _, _, _, _, _, _, _, _, _, _, _, _, _, _ => none
 | k + 1, x4, x131000, x131001, x131002, x131003, x131004, x131005, x131006, x131007, x131008, x131009, x131010, x131011, x131012, x131013, x131014, x131015, x132000, x132001, x132002, x132003, x132004, x132005, x132006, x132007, x132008, x132009, x132010, x132011, x132012, x132013, x132014, x132015 => if x131000 = 128 then (if (x131000 == 128 && (!x131001 && (!x131002 && (!x131003 && (!x131004 && (!x131005 && (!x131006 && (x131007 == 0 && (x131008 == 0 && (x131009 == 0 && (x131010 == 0 && (x131011 == 0 && (x131012 == 0 && (x131013 == 0 && (x131014 == 0 && (x131015 == 0)))))))))))))))) = true then (gangwayref09_Check.j1 k true) else (if x131000 = 0 then (if x4 = true then (if (x131000 == x132000 && (x131001 == x132001 && (x131002 == x132002 && (x131003 == x132003 && (x131004 == x132004 && (x131005 == x132005 && (x131006 == x132006 && (x131007 == x132007 && (x131008 == x132008 && (x131009 == x132009 && (x131010 == x132010 && (x131011 == x132011 && (x131012 == x132012 && (x131013 == x132013 && (x131014 == x132014 && (x131015 == x132015)))))))))))))))) = true then (gangwayref09_Check.j1 k true) else (if x131000 = 2 then (gangwayref09_Check.j1 k x4) else (gangwayref09_Check.j1 k false))) else (if x131000 = 2 then (gangwayref09_Check.j1 k x4) else (gangwayref09_Check.j1 k false))) else (if x131000 = 2 then (gangwayref09_Check.j1 k x4) else (gangwayref09_Check.j1 k false)))) else (if x131000 = 0 then (if x4 = true then (if (x131000 == x132000 && (x131001 == x132001 && (x131002 == x132002 && (x131003 == x132003 && (x131004 == x132004 && (x131005 == x132005 && (x131006 == x132006 && (x131007 == x132007 && (x131008 == x132008 && (x131009 == x132009 && (x131010 == x132010 && (x131011 == x132011 && (x131012 == x132012 && (x131013 == x132013 && (x131014 == x132014 && (x131015 == x132015)))))))))))))))) = true then (gangwayref09_Check.j1 k true) else (if x131000 = 2 then (gangwayref09_Check.j1 k x4) else (gangwayref09_Check.j1 k false))) else (if x131000 = 2 then (gangwayref09_Check.j1 k x4) else (gangwayref09_Check.j1 k false))) else (if x131000 = 2 then (gangwayref09_Check.j1 k x4) else (gangwayref09_Check.j1 k false)))
def gangwayref09_Check.j1 : Nat → Bool → Option (Int)
 | 0, _ => none
 | k + 1, x99 => if x99 = true then (some 0) else (some 91)
end
def gangwayref09_Check.f (k : Nat) (a0_0 : Int) (a0_1 : Bool) (a0_2 : Bool) (a0_3 : Bool) (a0_4 : Bool) (a0_5 : Bool) (a0_6 : Bool) (a0_7 : Int) (a0_8 : Int) (a0_9 : Int) (a0_10 : Int) (a0_11 : Int) (a0_12 : Int) (a0_13 : Int) (a0_14 : Int) (a0_15 : Int) : Option (Int) := if a0_7 ≥ 0 then (if a0_7 ≤ 3 then (if a0_9 ≥ 0 then (if a0_9 ≤ 4294967295 then ((gangwayref09_word.f a0_11).bind fun t132 => (if t132 = true then ((gangwayref09_word.f a0_12).bind fun t133 => (if t133 = true then ((gangwayref09_word.f a0_13).bind fun t134 => (if t134 = true then ((gangwayref09_word.f a0_14).bind fun t135 => (if t135 = true then ((gangwayref09_word.f a0_15).bind fun t136 => (gangwayref09_Check.j0 k t136 a0_0 a0_1 a0_2 a0_3 a0_4 a0_5 a0_6 a0_7 a0_8 a0_9 a0_10 a0_11 a0_12 a0_13 a0_14 a0_15 a0_0 a0_1 false false false false a0_6 0 a0_8 a0_9 a0_10 a0_11 a0_12 a0_13 a0_14 a0_15)) else (gangwayref09_Check.j0 k false a0_0 a0_1 a0_2 a0_3 a0_4 a0_5 a0_6 a0_7 a0_8 a0_9 a0_10 a0_11 a0_12 a0_13 a0_14 a0_15 a0_0 a0_1 false false false false a0_6 0 a0_8 a0_9 a0_10 a0_11 a0_12 a0_13 a0_14 a0_15))) else (gangwayref09_Check.j0 k false a0_0 a0_1 a0_2 a0_3 a0_4 a0_5 a0_6 a0_7 a0_8 a0_9 a0_10 a0_11 a0_12 a0_13 a0_14 a0_15 a0_0 a0_1 false false false false a0_6 0 a0_8 a0_9 a0_10 a0_11 a0_12 a0_13 a0_14 a0_15))) else (gangwayref09_Check.j0 k false a0_0 a0_1 a0_2 a0_3 a0_4 a0_5 a0_6 a0_7 a0_8 a0_9 a0_10 a0_11 a0_12 a0_13 a0_14 a0_15 a0_0 a0_1 false false false false a0_6 0 a0_8 a0_9 a0_10 a0_11 a0_12 a0_13 a0_14 a0_15))) else (gangwayref09_Check.j0 k false a0_0 a0_1 a0_2 a0_3 a0_4 a0_5 a0_6 a0_7 a0_8 a0_9 a0_10 a0_11 a0_12 a0_13 a0_14 a0_15 a0_0 a0_1 false false false false a0_6 0 a0_8 a0_9 a0_10 a0_11 a0_12 a0_13 a0_14 a0_15))) else (gangwayref09_Check.j0 k false a0_0 a0_1 a0_2 a0_3 a0_4 a0_5 a0_6 a0_7 a0_8 a0_9 a0_10 a0_11 a0_12 a0_13 a0_14 a0_15 a0_0 a0_1 false false false false a0_6 0 a0_8 a0_9 a0_10 a0_11 a0_12 a0_13 a0_14 a0_15)) else (gangwayref09_Check.j0 k false a0_0 a0_1 a0_2 a0_3 a0_4 a0_5 a0_6 a0_7 a0_8 a0_9 a0_10 a0_11 a0_12 a0_13 a0_14 a0_15 a0_0 a0_1 false false false false a0_6 0 a0_8 a0_9 a0_10 a0_11 a0_12 a0_13 a0_14 a0_15)) else (gangwayref09_Check.j0 k false a0_0 a0_1 a0_2 a0_3 a0_4 a0_5 a0_6 a0_7 a0_8 a0_9 a0_10 a0_11 a0_12 a0_13 a0_14 a0_15 a0_0 a0_1 false false false false a0_6 0 a0_8 a0_9 a0_10 a0_11 a0_12 a0_13 a0_14 a0_15)) else (gangwayref09_Check.j0 k false a0_0 a0_1 a0_2 a0_3 a0_4 a0_5 a0_6 a0_7 a0_8 a0_9 a0_10 a0_11 a0_12 a0_13 a0_14 a0_15 a0_0 a0_1 false false false false a0_6 0 a0_8 a0_9 a0_10 a0_11 a0_12 a0_13 a0_14 a0_15)
theorem gangwayref09_Check.mono_l : ∀ k, (∀ y0 y1 y2 y3 y4 y5 y6 y7 y8 y9 y10 y11 y12 y13 y14 y15 y16 y17 y18 y19 y20 y21 y22 y23 y24 y25 y26 y27 y28 y29 y30 y31 y32, LeO (gangwayref09_Check.j0 k y0 y1 y2 y3 y4 y5 y6 y7 y8 y9 y10 y11 y12 y13 y14 y15 y16 y17 y18 y19 y20 y21 y22 y23 y24 y25 y26 y27 y28 y29 y30 y31 y32) (gangwayref09_Check.j0 (k + 1) y0 y1 y2 y3 y4 y5 y6 y7 y8 y9 y10 y11 y12 y13 y14 y15 y16 y17 y18 y19 y20 y21 y22 y23 y24 y25 y26 y27 y28 y29 y30 y31 y32)) ∧ (∀ y0, LeO (gangwayref09_Check.j1 k y0) (gangwayref09_Check.j1 (k + 1) y0))
 | 0 => ⟨fun _ _ _ _ _ _ _ _ _ _ _ _ _ _ _ _ _ _ _ _ _ _ _ _ _ _ _ _ _ _ _ _ _ r h => by simp [gangwayref09_Check.j0] at h, fun _ r h => by simp [gangwayref09_Check.j1] at h⟩
 | k + 1 => by
  obtain ⟨ih0, ih1⟩ := gangwayref09_Check.mono_l k
  refine ⟨?_, ?_⟩
  ·intro y0 y1 y2 y3 y4 y5 y6 y7 y8 y9 y10 y11 y12 y13 y14 y15 y16 y17 y18 y19 y20 y21 y22 y23 y24 y25 y26 y27 y28 y29 y30 y31 y32
   unfold gangwayref09_Check.j0
   repeat' first
   | (with_reducible exact ih0 _ _ _ _ _ _ _ _ _ _ _ _ _ _ _ _ _ _ _ _ _ _ _ _ _ _ _ _ _ _ _ _ _)
   | (with_reducible exact ih1 _)
   | (with_reducible exact LeO.refl _)
   | (with_reducible exact LeO.none _)
   | (with_reducible refine LeO.ite ?_ ?_)
   | (with_reducible refine LeO.bind ?_ (fun _ => ?_))
   | exact ih0 _ _ _ _ _ _ _ _ _ _ _ _ _ _ _ _ _ _ _ _ _ _ _ _ _ _ _ _ _ _ _ _ _
   | exact ih1 _
   | exact LeO.none _
   | refine LeO.ite ?_ ?_
   | refine LeO.bind ?_ (fun _ => ?_)
  ·intro y0
   unfold gangwayref09_Check.j1
   repeat' first
   | (with_reducible exact ih0 _ _ _ _ _ _ _ _ _ _ _ _ _ _ _ _ _ _ _ _ _ _ _ _ _ _ _ _ _ _ _ _ _)
   | (with_reducible exact ih1 _)
   | (with_reducible exact LeO.refl _)
   | (with_reducible exact LeO.none _)
   | (with_reducible refine LeO.ite ?_ ?_)
   | (with_reducible refine LeO.bind ?_ (fun _ => ?_))
   | exact ih0 _ _ _ _ _ _ _ _ _ _ _ _ _ _ _ _ _ _ _ _ _ _ _ _ _ _ _ _ _ _ _ _ _
   | exact ih1 _
   | exact LeO.none _
   | refine LeO.ite ?_ ?_
   | refine LeO.bind ?_ (fun _ => ?_)
theorem gangwayref09_Check.mono : ∀ a0 a1 a2 a3 a4 a5 a6 a7 a8 a9 a10 a11 a12 a13 a14 a15 k, LeO (gangwayref09_Check.f k a0 a1 a2 a3 a4 a5 a6 a7 a8 a9 a10 a11 a12 a13 a14 a15) (gangwayref09_Check.f (k + 1) a0 a1 a2 a3 a4 a5 a6 a7 a8 a9 a10 a11 a12 a13 a14 a15) := by
 intro a0 a1 a2 a3 a4 a5 a6 a7 a8 a9 a10 a11 a12 a13 a14 a15 k
 obtain ⟨ih0, ih1⟩ := gangwayref09_Check.mono_l k
 unfold gangwayref09_Check.f
 repeat' first
   | (with_reducible exact ih0 _ _ _ _ _ _ _ _ _ _ _ _ _ _ _ _ _ _ _ _ _ _ _ _ _ _ _ _ _ _ _ _ _)
   | (with_reducible exact ih1 _)
   | (with_reducible exact LeO.refl _)
   | (with_reducible exact LeO.none _)
   | (with_reducible refine LeO.ite ?_ ?_)
   | (with_reducible refine LeO.bind ?_ (fun _ => ?_))
   | exact ih0 _ _ _ _ _ _ _ _ _ _ _ _ _ _ _ _ _ _ _ _ _ _ _ _ _ _ _ _ _ _ _ _ _
   | exact ih1 _
   | exact LeO.none _
   | refine LeO.ite ?_ ?_
   | refine LeO.bind ?_ (fun _ => ?_)
set_option maxHeartbeats 8000000 in
set_option maxRecDepth 100000 in
theorem gangwayref09_Check.calls (k : Nat) (a0_0 : Int) (a0_1 : Bool) (a0_2 : Bool) (a0_3 : Bool) (a0_4 : Bool) (a0_5 : Bool) (a0_6 : Bool) (a0_7 : Int) (a0_8 : Int) (a0_9 : Int) (a0_10 : Int) (a0_11 : Int) (a0_12 : Int) (a0_13 : Int) (a0_14 : Int) (a0_15 : Int) (r : Int) (w : World) (h : gangwayref09_Check.f k a0_0 a0_1 a0_2 a0_3 a0_4 a0_5 a0_6 a0_7 a0_8 a0_9 a0_10 a0_11 a0_12 a0_13 a0_14 a0_15 = some r) :
  Calls Tryd.prog 12 #[.agg #[.int .i64 a0_0, .bool a0_1, .bool a0_2, .bool a0_3, .bool a0_4, .bool a0_5, .bool a0_6, .int .i64 a0_7, .int .u64 a0_8, .int .i64 a0_9, .int .u64 a0_10, .int .i64 a0_11, .int .i64 a0_12, .int .i64 a0_13, .int .i64 a0_14, .int .i64 a0_15]] w fun e w' => e = .returned (.int .i64 r) ∧ Below w.heap.size w w' := by
 have hu24 := Tryd.underlying24
 have HB := Aside0.mk (Below.refl w.heap.size w)
 have H : (if a0_7 ≥ 0 then (if a0_7 ≤ 3 then (if a0_9 ≥ 0 then (if a0_9 ≤ 4294967295 then ((gangwayref09_word.f a0_11).bind fun t132 => (if t132 = true then ((gangwayref09_word.f a0_12).bind fun t133 => (if t133 = true then ((gangwayref09_word.f a0_13).bind fun t134 => (if t134 = true then ((gangwayref09_word.f a0_14).bind fun t135 => (if t135 = true then ((gangwayref09_word.f a0_15).bind fun t136 => (gangwayref09_Check.j0 k t136 a0_0 a0_1 a0_2 a0_3 a0_4 a0_5 a0_6 a0_7 a0_8 a0_9 a0_10 a0_11 a0_12 a0_13 a0_14 a0_15 a0_0 a0_1 false false false false a0_6 0 a0_8 a0_9 a0_10 a0_11 a0_12 a0_13 a0_14 a0_15)) else (gangwayref09_Check.j0 k false a0_0 a0_1 a0_2 a0_3 a0_4 a0_5 a0_6 a0_7 a0_8 a0_9 a0_10 a0_11 a0_12 a0_13 a0_14 a0_15 a0_0 a0_1 false false false false a0_6 0 a0_8 a0_9 a0_10 a0_11 a0_12 a0_13 a0_14 a0_15))) else (gangwayref09_Check.j0 k false a0_0 a0_1 a0_2 a0_3 a0_4 a0_5 a0_6 a0_7 a0_8 a0_9 a0_10 a0_11 a0_12 a0_13 a0_14 a0_15 a0_0 a0_1 false false false false a0_6 0 a0_8 a0_9 a0_10 a0_11 a0_12 a0_13 a0_14 a0_15))) else (gangwayref09_Check.j0 k false a0_0 a0_1 a0_2 a0_3 a0_4 a0_5 a0_6 a0_7 a0_8 a0_9 a0_10 a0_11 a0_12 a0_13 a0_14 a0_15 a0_0 a0_1 false false false false a0_6 0 a0_8 a0_9 a0_10 a0_11 a0_12 a0_13 a0_14 a0_15))) else (gangwayref09_Check.j0 k false a0_0 a0_1 a0_2 a0_3 a0_4 a0_5 a0_6 a0_7 a0_8 a0_9 a0_10 a0_11 a0_12 a0_13 a0_14 a0_15 a0_0 a0_1 false false false false a0_6 0 a0_8 a0_9 a0_10 a0_11 a0_12 a0_13 a0_14 a0_15))) else (gangwayref09_Check.j0 k false a0_0 a0_1 a0_2 a0_3 a0_4 a0_5 a0_6 a0_7 a0_8 a0_9 a0_10 a0_11 a0_12 a0_13 a0_14 a0_15 a0_0 a0_1 false false false false a0_6 0 a0_8 a0_9 a0_10 a0_11 a0_12 a0_13 a0_14 a0_15)) else (gangwayref09_Check.j0 k false a0_0 a0_1 a0_2 a0_3 a0_4 a0_5 a0_6 a0_7 a0_8 a0_9 a0_10 a0_11 a0_12 a0_13 a0_14 a0_15 a0_0 a0_1 false false false false a0_6 0 a0_8 a0_9 a0_10 a0_11 a0_12 a0_13 a0_14 a0_15)) else (gangwayref09_Check.j0 k false a0_0 a0_1 a0_2 a0_3 a0_4 a0_5 a0_6 a0_7 a0_8 a0_9 a0_10 a0_11 a0_12 a0_13 a0_14 a0_15 a0_0 a0_1 false false false false a0_6 0 a0_8 a0_9 a0_10 a0_11 a0_12 a0_13 a0_14 a0_15)) else (gangwayref09_Check.j0 k false a0_0 a0_1 a0_2 a0_3 a0_4 a0_5 a0_6 a0_7 a0_8 a0_9 a0_10 a0_11 a0_12 a0_13 a0_14 a0_15 a0_0 a0_1 false false false false a0_6 0 a0_8 a0_9 a0_10 a0_11 a0_12 a0_13 a0_14 a0_15)) = some r := h
 clear h
 have HC2 := Aside0.mk H
 clear H
 go_enter Tryd.func12, Tryd.ntmps12
 go_upto_region 2 with (first | ((with_reducible refine gate_st (ty := 24) rfl ?_); (try (with_reducible refine gate_gd rfl ?_; refine gate_guard (by first | rfl | exact wanted_on rfl rfl rfl (by first | rfl | (simp [*]; done) | fail) | fail) ?_; dsimp only)); refine storeC16 rfl rfl rfl rfl rfl (by repeat (first | (with_reducible apply blk_far; case hp => assumption) | (with_reducible apply blk_set) | (with_reducible refine blk_drewN ?_ _) | (with_reducible refine blk_drew ?_) | (with_reducible refine blk_alloc ?_ _) | (first | with_reducible exact BK130.out | with_reducible exact BK131.out))) (by first | (simp only [List.setIfInBounds_toArray, List.set_cons_zero, List.set_cons_succ] <;> rfl) | rfl) (by kernel_rfl) rfl ?_) | ((with_reducible refine gate_ld (ty := 24) rfl ?_); (try (with_reducible refine gate_gd rfl ?_; refine gate_guard (by first | rfl | exact wanted_on rfl rfl rfl (by first | rfl | (simp [*]; done) | fail) | fail) ?_; dsimp only)); refine load_st rfl rfl rfl (by repeat (first | (with_reducible apply blk_far; case hp => assumption) | (with_reducible apply blk_set) | (with_reducible refine blk_drewN ?_ _) | (with_reducible refine blk_drew ?_) | (with_reducible refine blk_alloc ?_ _) | (first | with_reducible exact BK130.out | with_reducible exact BK131.out))) (by first | (simp only [List.setIfInBounds_toArray, List.set_cons_zero, List.set_cons_succ] <;> rfl) | rfl) Tryd.underlying24 rfl (by kernel_rfl) ?_; (try simp only [Act.put, List.setIfInBounds_toArray, List.set_cons_zero, List.set_cons_succ])) | ((with_reducible refine gate_eql (ty := 24) rfl ?_); (try (with_reducible refine gate_gd rfl ?_; refine gate_guard (by first | rfl | exact wanted_on rfl rfl rfl (by first | rfl | (simp [*]; done) | fail) | fail) ?_; dsimp only)); refine eql24 rfl rfl rfl rfl true (by first | exact c41b0 | (simpa using c41b0) | exact c46b0 | (simpa using c46b0) | exact c69b0 | (simpa using c69b0)) ?_; (try simp only [Act.put, List.setIfInBounds_toArray, List.set_cons_zero, List.set_cons_succ])) | ((with_reducible refine gate_eql (ty := 24) rfl ?_); (try (with_reducible refine gate_gd rfl ?_; refine gate_guard (by first | rfl | exact wanted_on rfl rfl rfl (by first | rfl | (simp [*]; done) | fail) | fail) ?_; dsimp only)); refine eql24 rfl rfl rfl rfl false (by first | exact c41b0 | (simpa using c41b0) | exact c46b0 | (simpa using c46b0) | exact c69b0 | (simpa using c69b0)) ?_; (try simp only [Act.put, List.setIfInBounds_toArray, List.set_cons_zero, List.set_cons_succ])) | ((with_reducible refine gate_dst (N := 1) rfl ?_); refine box_event ?hg (N := 1) ?hd (cs := #[.int .i64 a0_0, .bool a0_1, .bool a0_2, .bool a0_3, .bool a0_4, .bool a0_5, .bool a0_6, .int .i64 a0_7, .int .u64 a0_8, .int .i64 a0_9, .int .u64 a0_10, .int .i64 a0_11, .int .i64 a0_12, .int .i64 a0_13, .int .i64 a0_14, .int .i64 a0_15]) (t := 24) ?hr ?_; (case hd => rfl); (case hg => rfl); (case hr => first | (go_simp; done) | (go_simp; rfl)); intro gb130 hg w3 hbox hb; have n0_ := Aside0.mk (below_step (by repeat (first | (with_reducible first | exact HB.out | apply below_alloc | apply pw_below_drewN | apply below_drew1) | exact HB.out)) hb); have n1_ := Aside0.mk (hbox); have n2_ := Aside0.mk ((by rw [hg]; exact (below_size (by repeat (first | (with_reducible first | exact HB.out | apply below_alloc | apply pw_below_drewN | apply below_drew1) | exact HB.out))) : w.heap.size ≤ gb130)); have n3_ := Aside0.mk ((by rw [hg]; exact (below_size (by repeat (first | (with_reducible first | exact HB.out | apply below_alloc | apply pw_below_drewN | apply below_drew1) | exact HB.out))) : w.heap.size ≤ gb130)); clear HB; have HB := n0_; have BK130 := n1_; have GW130 := n2_; have GE130 := n3_; clear n0_ n1_ n2_ n3_; clear hb hbox hg; obtain ⟨hcz4_0, hcz4_1, hcz4_2, hcz4_3, hcz4_4, hcz4_5, hcz4_6, hcz4_7, hcz4_8, hcz4_9, hcz4_10, hcz4_11, hcz4_12, hcz4_13, hcz4_14, hcz4_15⟩ := cells16 BK130.out; obtain ⟨hfz4_0, hfz4_1, hfz4_2, hfz4_3, hfz4_4, hfz4_5, hfz4_6, hfz4_7, hfz4_8, hfz4_9, hfz4_10, hfz4_11, hfz4_12, hfz4_13, hfz4_14, hfz4_15⟩ := frozen16 BK130.out) | ((with_reducible refine gate_dst (N := 3) rfl ?_); refine box_event ?hg (N := 3) ?hd (cs := #[.int .i64 0, .bool false, .bool false, .bool false, .bool false, .bool false, .bool false, .int .i64 0, .int .u64 0, .int .i64 0, .int .u64 0, .int .i64 0, .int .i64 0, .int .i64 0, .int .i64 0, .int .i64 0]) (t := 24) ?hr ?_; (case hd => rfl); (case hg => rfl); (case hr => first | (go_simp; done) | (go_simp; rfl)); intro gb131 hg w5 hbox hb; have n0_ := Aside0.mk (blk_below (g := gb130) (by (with_reducible repeat (first | refine blk_drewN ?_ _ | refine blk_drew ?_ | refine blk_alloc ?_ _)); exact BK130.out) hb); have n1_ := Aside0.mk (below_step (by repeat (first | (with_reducible first | exact HB.out | apply below_alloc | apply pw_below_drewN | apply below_drew1 | refine below_set ?_ GE130.out) | exact HB.out)) hb); have n2_ := Aside0.mk (hbox); have n3_ := Aside0.mk ((by rw [hg]; exact (below_size (by repeat (first | (with_reducible first | exact HB.out | apply below_alloc | apply pw_below_drewN | apply below_drew1 | refine below_set ?_ GE130.out) | exact HB.out))) : w.heap.size ≤ gb131)); have n4_ := Aside0.mk ((by rw [hg]; exact (below_size (by repeat (first | (with_reducible first | exact HB.out | apply below_alloc | apply pw_below_drewN | apply below_drew1 | refine below_set ?_ GE130.out) | exact HB.out))) : w.heap.size ≤ gb131)); have n5_ := Aside0.mk ((by rw [hg]; exact Nat.ne_of_lt (blk_lt (g := gb130) (by (with_reducible repeat (first | refine blk_drewN ?_ _ | refine blk_drew ?_ | refine blk_alloc ?_ _)); exact BK130.out)) : gb130 ≠ gb131)); have n6_ := Aside0.mk ((by rw [hg]; exact Nat.ne_of_gt (blk_lt (g := gb130) (by (with_reducible repeat (first | refine blk_drewN ?_ _ | refine blk_drew ?_ | refine blk_alloc ?_ _)); exact BK130.out)) : gb131 ≠ gb130)); clear BK130; clear HB; have BK130 := n0_; have HB := n1_; have BK131 := n2_; have GW131 := n3_; have GE131 := n4_; have NB130_131 := n5_; have NB131_130 := n6_; clear n0_ n1_ n2_ n3_ n4_ n5_ n6_; clear hb hbox hg; have hnb6 := NB131_130.out; have hnc6 := NB130_131.out; obtain ⟨hcz7_0, hcz7_1, hcz7_2, hcz7_3, hcz7_4, hcz7_5, hcz7_6, hcz7_7, hcz7_8, hcz7_9, hcz7_10, hcz7_11, hcz7_12, hcz7_13, hcz7_14, hcz7_15⟩ := cells16 BK131.out; obtain ⟨hfz7_0, hfz7_1, hfz7_2, hfz7_3, hfz7_4, hfz7_5, hfz7_6, hfz7_7, hfz7_8, hfz7_9, hfz7_10, hfz7_11, hfz7_12, hfz7_13, hfz7_14, hfz7_15⟩ := frozen16 BK131.out))
 (try simp only [Act.put, List.setIfInBounds_toArray, List.set_cons_zero, List.set_cons_succ])
 go_cut [4] (fun v4 wc => ∃ (kq : Nat) (x4_1 : Bool), v4 = .bool x4_1 ∧ Aside0 (gangwayref09_Check.j0 kq x4_1 a0_0 a0_1 a0_2 a0_3 a0_4 a0_5 a0_6 a0_7 a0_8 a0_9 a0_10 a0_11 a0_12 a0_13 a0_14 a0_15 a0_0 a0_1 false false false false a0_6 0 a0_8 a0_9 a0_10 a0_11 a0_12 a0_13 a0_14 a0_15 = some r) ∧ Aside0 (kq ≤ k) ∧ Aside0 (wc.heap[gb130]? = some (.cells #[.int .i64 a0_0, .bool a0_1, .bool a0_2, .bool a0_3, .bool a0_4, .bool a0_5, .bool a0_6, .int .i64 a0_7, .int .u64 a0_8, .int .i64 a0_9, .int .u64 a0_10, .int .i64 a0_11, .int .i64 a0_12, .int .i64 a0_13, .int .i64 a0_14, .int .i64 a0_15] 24 (0, 0))) ∧ Aside0 (wc.heap[gb131]? = some (.cells #[.int .i64 a0_0, .bool a0_1, .bool false, .bool false, .bool false, .bool false, .bool a0_6, .int .i64 0, .int .u64 a0_8, .int .i64 a0_9, .int .u64 a0_10, .int .i64 a0_11, .int .i64 a0_12, .int .i64 a0_13, .int .i64 a0_14, .int .i64 a0_15] 24 (0, 0))) ∧ Aside0 (Below w.heap.size w wc))
 case first =>
  have H := HC2.out
  clear HC2
  by_cases c8 : a0_7 ≥ 0
  ·rw [if_pos c8] at H
   have c8b0 : decide (0 ≤ a0_7) = true := decide_eq_true c8
   clear c8
   (first | rw [c8b0] | (simp only [i64_w, i32_w]; rw [c8b0]) | skip)
   by_cases c9 : a0_7 ≤ 3
   ·rw [if_pos c9] at H
    have c9b0 : decide (a0_7 ≤ 3) = true := decide_eq_true c9
    clear c9
    by_cases c10 : a0_9 ≥ 0
    ·rw [if_pos c10] at H
     have c10b0 : decide (0 ≤ a0_9) = true := decide_eq_true c10
     clear c10
     by_cases c11 : a0_9 ≤ 4294967295
     ·rw [if_pos c11] at H
      have c11b0 : decide (a0_9 ≤ 4294967295) = true := decide_eq_true c11
      clear c11
      replace H := Option.bind_eq_some_iff.mp H
      obtain ⟨t132, A120, H⟩ := H
      replace H : (if t132 = true then ((gangwayref09_word.f a0_12).bind fun t133 => (if t133 = true then ((gangwayref09_word.f a0_13).bind fun t134 => (if t134 = true then ((gangwayref09_word.f a0_14).bind fun t135 => (if t135 = true then ((gangwayref09_word.f a0_15).bind fun t136 => (gangwayref09_Check.j0 k t136 a0_0 a0_1 a0_2 a0_3 a0_4 a0_5 a0_6 a0_7 a0_8 a0_9 a0_10 a0_11 a0_12 a0_13 a0_14 a0_15 a0_0 a0_1 false false false false a0_6 0 a0_8 a0_9 a0_10 a0_11 a0_12 a0_13 a0_14 a0_15)) else (gangwayref09_Check.j0 k false a0_0 a0_1 a0_2 a0_3 a0_4 a0_5 a0_6 a0_7 a0_8 a0_9 a0_10 a0_11 a0_12 a0_13 a0_14 a0_15 a0_0 a0_1 false false false false a0_6 0 a0_8 a0_9 a0_10 a0_11 a0_12 a0_13 a0_14 a0_15))) else (gangwayref09_Check.j0 k false a0_0 a0_1 a0_2 a0_3 a0_4 a0_5 a0_6 a0_7 a0_8 a0_9 a0_10 a0_11 a0_12 a0_13 a0_14 a0_15 a0_0 a0_1 false false false false a0_6 0 a0_8 a0_9 a0_10 a0_11 a0_12 a0_13 a0_14 a0_15))) else (gangwayref09_Check.j0 k false a0_0 a0_1 a0_2 a0_3 a0_4 a0_5 a0_6 a0_7 a0_8 a0_9 a0_10 a0_11 a0_12 a0_13 a0_14 a0_15 a0_0 a0_1 false false false false a0_6 0 a0_8 a0_9 a0_10 a0_11 a0_12 a0_13 a0_14 a0_15))) else (gangwayref09_Check.j0 k false a0_0 a0_1 a0_2 a0_3 a0_4 a0_5 a0_6 a0_7 a0_8 a0_9 a0_10 a0_11 a0_12 a0_13 a0_14 a0_15 a0_0 a0_1 false false false false a0_6 0 a0_8 a0_9 a0_10 a0_11 a0_12 a0_13 a0_14 a0_15)) = some r := H
      have A12 := Aside0.mk A120
      clear A120
      by_cases c13 : t132 = true
      ·subst c13
       have H1 : ((gangwayref09_word.f a0_12).bind fun t133 => (if t133 = true then ((gangwayref09_word.f a0_13).bind fun t134 => (if t134 = true then ((gangwayref09_word.f a0_14).bind fun t135 => (if t135 = true then ((gangwayref09_word.f a0_15).bind fun t136 => (gangwayref09_Check.j0 k t136 a0_0 a0_1 a0_2 a0_3 a0_4 a0_5 a0_6 a0_7 a0_8 a0_9 a0_10 a0_11 a0_12 a0_13 a0_14 a0_15 a0_0 a0_1 false false false false a0_6 0 a0_8 a0_9 a0_10 a0_11 a0_12 a0_13 a0_14 a0_15)) else (gangwayref09_Check.j0 k false a0_0 a0_1 a0_2 a0_3 a0_4 a0_5 a0_6 a0_7 a0_8 a0_9 a0_10 a0_11 a0_12 a0_13 a0_14 a0_15 a0_0 a0_1 false false false false a0_6 0 a0_8 a0_9 a0_10 a0_11 a0_12 a0_13 a0_14 a0_15))) else (gangwayref09_Check.j0 k false a0_0 a0_1 a0_2 a0_3 a0_4 a0_5 a0_6 a0_7 a0_8 a0_9 a0_10 a0_11 a0_12 a0_13 a0_14 a0_15 a0_0 a0_1 false false false false a0_6 0 a0_8 a0_9 a0_10 a0_11 a0_12 a0_13 a0_14 a0_15))) else (gangwayref09_Check.j0 k false a0_0 a0_1 a0_2 a0_3 a0_4 a0_5 a0_6 a0_7 a0_8 a0_9 a0_10 a0_11 a0_12 a0_13 a0_14 a0_15 a0_0 a0_1 false false false false a0_6 0 a0_8 a0_9 a0_10 a0_11 a0_12 a0_13 a0_14 a0_15))) = some r := by rw [if_pos rfl] at H; exact H
       clear H
       have H := H1
       clear H1
       replace H := Option.bind_eq_some_iff.mp H
       obtain ⟨t133, A140, H⟩ := H
       replace H : (if t133 = true then ((gangwayref09_word.f a0_13).bind fun t134 => (if t134 = true then ((gangwayref09_word.f a0_14).bind fun t135 => (if t135 = true then ((gangwayref09_word.f a0_15).bind fun t136 => (gangwayref09_Check.j0 k t136 a0_0 a0_1 a0_2 a0_3 a0_4 a0_5 a0_6 a0_7 a0_8 a0_9 a0_10 a0_11 a0_12 a0_13 a0_14 a0_15 a0_0 a0_1 false false false false a0_6 0 a0_8 a0_9 a0_10 a0_11 a0_12 a0_13 a0_14 a0_15)) else (gangwayref09_Check.j0 k false a0_0 a0_1 a0_2 a0_3 a0_4 a0_5 a0_6 a0_7 a0_8 a0_9 a0_10 a0_11 a0_12 a0_13 a0_14 a0_15 a0_0 a0_1 false false false false a0_6 0 a0_8 a0_9 a0_10 a0_11 a0_12 a0_13 a0_14 a0_15))) else (gangwayref09_Check.j0 k false a0_0 a0_1 a0_2 a0_3 a0_4 a0_5 a0_6 a0_7 a0_8 a0_9 a0_10 a0_11 a0_12 a0_13 a0_14 a0_15 a0_0 a0_1 false false false false a0_6 0 a0_8 a0_9 a0_10 a0_11 a0_12 a0_13 a0_14 a0_15))) else (gangwayref09_Check.j0 k false a0_0 a0_1 a0_2 a0_3 a0_4 a0_5 a0_6 a0_7 a0_8 a0_9 a0_10 a0_11 a0_12 a0_13 a0_14 a0_15 a0_0 a0_1 false false false false a0_6 0 a0_8 a0_9 a0_10 a0_11 a0_12 a0_13 a0_14 a0_15)) = some r := H
       have A14 := Aside0.mk A140
       clear A140
       by_cases c15 : t133 = true
       ·subst c15
        have H1 : ((gangwayref09_word.f a0_13).bind fun t134 => (if t134 = true then ((gangwayref09_word.f a0_14).bind fun t135 => (if t135 = true then ((gangwayref09_word.f a0_15).bind fun t136 => (gangwayref09_Check.j0 k t136 a0_0 a0_1 a0_2 a0_3 a0_4 a0_5 a0_6 a0_7 a0_8 a0_9 a0_10 a0_11 a0_12 a0_13 a0_14 a0_15 a0_0 a0_1 false false false false a0_6 0 a0_8 a0_9 a0_10 a0_11 a0_12 a0_13 a0_14 a0_15)) else (gangwayref09_Check.j0 k false a0_0 a0_1 a0_2 a0_3 a0_4 a0_5 a0_6 a0_7 a0_8 a0_9 a0_10 a0_11 a0_12 a0_13 a0_14 a0_15 a0_0 a0_1 false false false false a0_6 0 a0_8 a0_9 a0_10 a0_11 a0_12 a0_13 a0_14 a0_15))) else (gangwayref09_Check.j0 k false a0_0 a0_1 a0_2 a0_3 a0_4 a0_5 a0_6 a0_7 a0_8 a0_9 a0_10 a0_11 a0_12 a0_13 a0_14 a0_15 a0_0 a0_1 false false false false a0_6 0 a0_8 a0_9 a0_10 a0_11 a0_12 a0_13 a0_14 a0_15))) = some r := by rw [if_pos rfl] at H; exact H
        clear H
        have H := H1
        clear H1
        replace H := Option.bind_eq_some_iff.mp H
        obtain ⟨t134, A160, H⟩ := H
        replace H : (if t134 = true then ((gangwayref09_word.f a0_14).bind fun t135 => (if t135 = true then ((gangwayref09_word.f a0_15).bind fun t136 => (gangwayref09_Check.j0 k t136 a0_0 a0_1 a0_2 a0_3 a0_4 a0_5 a0_6 a0_7 a0_8 a0_9 a0_10 a0_11 a0_12 a0_13 a0_14 a0_15 a0_0 a0_1 false false false false a0_6 0 a0_8 a0_9 a0_10 a0_11 a0_12 a0_13 a0_14 a0_15)) else (gangwayref09_Check.j0 k false a0_0 a0_1 a0_2 a0_3 a0_4 a0_5 a0_6 a0_7 a0_8 a0_9 a0_10 a0_11 a0_12 a0_13 a0_14 a0_15 a0_0 a0_1 false false false false a0_6 0 a0_8 a0_9 a0_10 a0_11 a0_12 a0_13 a0_14 a0_15))) else (gangwayref09_Check.j0 k false a0_0 a0_1 a0_2 a0_3 a0_4 a0_5 a0_6 a0_7 a0_8 a0_9 a0_10 a0_11 a0_12 a0_13 a0_14 a0_15 a0_0 a0_1 false false false false a0_6 0 a0_8 a0_9 a0_10 a0_11 a0_12 a0_13 a0_14 a0_15)) = some r := H
        have A16 := Aside0.mk A160
        clear A160
        by_cases c17 : t134 = true
        ·subst c17
         have H1 : ((gangwayref09_word.f a0_14).bind fun t135 => (if t135 = true then ((gangwayref09_word.f a0_15).bind fun t136 => (gangwayref09_Check.j0 k t136 a0_0 a0_1 a0_2 a0_3 a0_4 a0_5 a0_6 a0_7 a0_8 a0_9 a0_10 a0_11 a0_12 a0_13 a0_14 a0_15 a0_0 a0_1 false false false false a0_6 0 a0_8 a0_9 a0_10 a0_11 a0_12 a0_13 a0_14 a0_15)) else (gangwayref09_Check.j0 k false a0_0 a0_1 a0_2 a0_3 a0_4 a0_5 a0_6 a0_7 a0_8 a0_9 a0_10 a0_11 a0_12 a0_13 a0_14 a0_15 a0_0 a0_1 false false false false a0_6 0 a0_8 a0_9 a0_10 a0_11 a0_12 a0_13 a0_14 a0_15))) = some r := by rw [if_pos rfl] at H; exact H
         clear H
         have H := H1
         clear H1
         replace H := Option.bind_eq_some_iff.mp H
         obtain ⟨t135, A180, H⟩ := H
         replace H : (if t135 = true then ((gangwayref09_word.f a0_15).bind fun t136 => (gangwayref09_Check.j0 k t136 a0_0 a0_1 a0_2 a0_3 a0_4 a0_5 a0_6 a0_7 a0_8 a0_9 a0_10 a0_11 a0_12 a0_13 a0_14 a0_15 a0_0 a0_1 false false false false a0_6 0 a0_8 a0_9 a0_10 a0_11 a0_12 a0_13 a0_14 a0_15)) else (gangwayref09_Check.j0 k false a0_0 a0_1 a0_2 a0_3 a0_4 a0_5 a0_6 a0_7 a0_8 a0_9 a0_10 a0_11 a0_12 a0_13 a0_14 a0_15 a0_0 a0_1 false false false false a0_6 0 a0_8 a0_9 a0_10 a0_11 a0_12 a0_13 a0_14 a0_15)) = some r := H
         have A18 := Aside0.mk A180
         clear A180
         by_cases c19 : t135 = true
         ·subst c19
          have H1 : ((gangwayref09_word.f a0_15).bind fun t136 => (gangwayref09_Check.j0 k t136 a0_0 a0_1 a0_2 a0_3 a0_4 a0_5 a0_6 a0_7 a0_8 a0_9 a0_10 a0_11 a0_12 a0_13 a0_14 a0_15 a0_0 a0_1 false false false false a0_6 0 a0_8 a0_9 a0_10 a0_11 a0_12 a0_13 a0_14 a0_15)) = some r := by rw [if_pos rfl] at H; exact H
          clear H
          have H := H1
          clear H1
          replace H := Option.bind_eq_some_iff.mp H
          obtain ⟨t136, A200, H⟩ := H
          replace H : (gangwayref09_Check.j0 k t136 a0_0 a0_1 a0_2 a0_3 a0_4 a0_5 a0_6 a0_7 a0_8 a0_9 a0_10 a0_11 a0_12 a0_13 a0_14 a0_15 a0_0 a0_1 false false false false a0_6 0 a0_8 a0_9 a0_10 a0_11 a0_12 a0_13 a0_14 a0_15) = some r := H
          have A20 := Aside0.mk A200
          clear A200
          have H' := Aside0.mk H
          clear H
          have hnb21 := NB130_131.out
          have hnc21 := NB131_130.out
          obtain ⟨hcz22_0, hcz22_1, hcz22_2, hcz22_3, hcz22_4, hcz22_5, hcz22_6, hcz22_7, hcz22_8, hcz22_9, hcz22_10, hcz22_11, hcz22_12, hcz22_13, hcz22_14, hcz22_15⟩ := cells16 BK130.out
          obtain ⟨hfz22_0, hfz22_1, hfz22_2, hfz22_3, hfz22_4, hfz22_5, hfz22_6, hfz22_7, hfz22_8, hfz22_9, hfz22_10, hfz22_11, hfz22_12, hfz22_13, hfz22_14, hfz22_15⟩ := frozen16 BK130.out
          go_wp2_with (first | ((with_reducible refine gate_st (ty := 24) rfl ?_); (try (with_reducible refine gate_gd rfl ?_; refine gate_guard (by first | rfl | exact wanted_on rfl rfl rfl (by first | rfl | (simp [*]; done) | fail) | fail) ?_; dsimp only)); refine storeC16 rfl rfl rfl rfl rfl (by repeat (first | (with_reducible apply blk_far; case hp => assumption) | (with_reducible apply blk_set) | (with_reducible refine blk_drewN ?_ _) | (with_reducible refine blk_drew ?_) | (with_reducible refine blk_alloc ?_ _) | (first | with_reducible exact BK130.out | with_reducible exact BK131.out))) (by first | (simp only [List.setIfInBounds_toArray, List.set_cons_zero, List.set_cons_succ] <;> rfl) | rfl) (by kernel_rfl) rfl ?_) | ((with_reducible refine gate_ld (ty := 24) rfl ?_); (try (with_reducible refine gate_gd rfl ?_; refine gate_guard (by first | rfl | exact wanted_on rfl rfl rfl (by first | rfl | (simp [*]; done) | fail) | fail) ?_; dsimp only)); refine load_st rfl rfl rfl (by repeat (first | (with_reducible apply blk_far; case hp => assumption) | (with_reducible apply blk_set) | (with_reducible refine blk_drewN ?_ _) | (with_reducible refine blk_drew ?_) | (with_reducible refine blk_alloc ?_ _) | (first | with_reducible exact BK130.out | with_reducible exact BK131.out))) (by first | (simp only [List.setIfInBounds_toArray, List.set_cons_zero, List.set_cons_succ] <;> rfl) | rfl) Tryd.underlying24 rfl (by kernel_rfl) ?_; (try simp only [Act.put, List.setIfInBounds_toArray, List.set_cons_zero, List.set_cons_succ])) | ((with_reducible refine gate_eql (ty := 24) rfl ?_); (try (with_reducible refine gate_gd rfl ?_; refine gate_guard (by first | rfl | exact wanted_on rfl rfl rfl (by first | rfl | (simp [*]; done) | fail) | fail) ?_; dsimp only)); refine eql24 rfl rfl rfl rfl true (by first | exact c41b0 | (simpa using c41b0) | exact c46b0 | (simpa using c46b0) | exact c69b0 | (simpa using c69b0)) ?_; (try simp only [Act.put, List.setIfInBounds_toArray, List.set_cons_zero, List.set_cons_succ])) | ((with_reducible refine gate_eql (ty := 24) rfl ?_); (try (with_reducible refine gate_gd rfl ?_; refine gate_guard (by first | rfl | exact wanted_on rfl rfl rfl (by first | rfl | (simp [*]; done) | fail) | fail) ?_; dsimp only)); refine eql24 rfl rfl rfl rfl false (by first | exact c41b0 | (simpa using c41b0) | exact c46b0 | (simpa using c46b0) | exact c69b0 | (simpa using c69b0)) ?_; (try simp only [Act.put, List.setIfInBounds_toArray, List.set_cons_zero, List.set_cons_succ])) | (go_at_call 25; (with_reducible refine (gangwayref09_word.calls a0_11 true _ A12.out).mono ?_); rintro e w' ⟨rfl, ⟨nd, rfl⟩⟩) | (go_at_call 25; (with_reducible refine (gangwayref09_word.calls a0_12 true _ A14.out).mono ?_); rintro e w' ⟨rfl, ⟨nd, rfl⟩⟩) | (go_at_call 25; (with_reducible refine (gangwayref09_word.calls a0_13 true _ A16.out).mono ?_); rintro e w' ⟨rfl, ⟨nd, rfl⟩⟩) | (go_at_call 25; (with_reducible refine (gangwayref09_word.calls a0_14 true _ A18.out).mono ?_); rintro e w' ⟨rfl, ⟨nd, rfl⟩⟩) | (go_at_call 25; (with_reducible refine (gangwayref09_word.calls a0_15 t136 _ A20.out).mono ?_); rintro e w' ⟨rfl, ⟨nd, rfl⟩⟩))
          go_meet
          case rel => exact ⟨_, (t136), (by first | rfl | (simp; done) | (simp [*]; done)), H', ⟨by first | omega | exact Nat.le_refl _⟩, ⟨by (with_reducible repeat (first | refine blk_drewN ?_ _ | refine blk_drew ?_ | refine blk_alloc ?_ _ | refine blk_far ?_ NB130_131.out _)); exact BK130.out⟩, ⟨by (with_reducible repeat (first | refine blk_drewN ?_ _ | refine blk_drew ?_ | refine blk_alloc ?_ _)); exact put16_0_16 (by (with_reducible repeat (first | refine blk_drewN ?_ _ | refine blk_drew ?_ | refine blk_alloc ?_ _)); exact BK131.out)⟩, ⟨by repeat (first | (with_reducible first | exact HB.out | apply below_alloc | apply pw_below_drewN | apply below_drew1 | refine below_set ?_ GE130.out | refine below_set ?_ GE131.out) | exact HB.out)⟩⟩
         ·replace c19 := Bool.eq_false_iff.mpr c19
          subst c19
          have H1 : (gangwayref09_Check.j0 k false a0_0 a0_1 a0_2 a0_3 a0_4 a0_5 a0_6 a0_7 a0_8 a0_9 a0_10 a0_11 a0_12 a0_13 a0_14 a0_15 a0_0 a0_1 false false false false a0_6 0 a0_8 a0_9 a0_10 a0_11 a0_12 a0_13 a0_14 a0_15) = some r := by rw [if_neg (show ¬ (false = true) by decide)] at H; exact H
          clear H
          have H := H1
          clear H1
          have H' := Aside0.mk H
          clear H
          have hnb23 := NB130_131.out
          have hnc23 := NB131_130.out
          obtain ⟨hcz24_0, hcz24_1, hcz24_2, hcz24_3, hcz24_4, hcz24_5, hcz24_6, hcz24_7, hcz24_8, hcz24_9, hcz24_10, hcz24_11, hcz24_12, hcz24_13, hcz24_14, hcz24_15⟩ := cells16 BK130.out
          obtain ⟨hfz24_0, hfz24_1, hfz24_2, hfz24_3, hfz24_4, hfz24_5, hfz24_6, hfz24_7, hfz24_8, hfz24_9, hfz24_10, hfz24_11, hfz24_12, hfz24_13, hfz24_14, hfz24_15⟩ := frozen16 BK130.out
          go_wp2_with (first | ((with_reducible refine gate_st (ty := 24) rfl ?_); (try (with_reducible refine gate_gd rfl ?_; refine gate_guard (by first | rfl | exact wanted_on rfl rfl rfl (by first | rfl | (simp [*]; done) | fail) | fail) ?_; dsimp only)); refine storeC16 rfl rfl rfl rfl rfl (by repeat (first | (with_reducible apply blk_far; case hp => assumption) | (with_reducible apply blk_set) | (with_reducible refine blk_drewN ?_ _) | (with_reducible refine blk_drew ?_) | (with_reducible refine blk_alloc ?_ _) | (first | with_reducible exact BK130.out | with_reducible exact BK131.out))) (by first | (simp only [List.setIfInBounds_toArray, List.set_cons_zero, List.set_cons_succ] <;> rfl) | rfl) (by kernel_rfl) rfl ?_) | ((with_reducible refine gate_ld (ty := 24) rfl ?_); (try (with_reducible refine gate_gd rfl ?_; refine gate_guard (by first | rfl | exact wanted_on rfl rfl rfl (by first | rfl | (simp [*]; done) | fail) | fail) ?_; dsimp only)); refine load_st rfl rfl rfl (by repeat (first | (with_reducible apply blk_far; case hp => assumption) | (with_reducible apply blk_set) | (with_reducible refine blk_drewN ?_ _) | (with_reducible refine blk_drew ?_) | (with_reducible refine blk_alloc ?_ _) | (first | with_reducible exact BK130.out | with_reducible exact BK131.out))) (by first | (simp only [List.setIfInBounds_toArray, List.set_cons_zero, List.set_cons_succ] <;> rfl) | rfl) Tryd.underlying24 rfl (by kernel_rfl) ?_; (try simp only [Act.put, List.setIfInBounds_toArray, List.set_cons_zero, List.set_cons_succ])) | ((with_reducible refine gate_eql (ty := 24) rfl ?_); (try (with_reducible refine gate_gd rfl ?_; refine gate_guard (by first | rfl | exact wanted_on rfl rfl rfl (by first | rfl | (simp [*]; done) | fail) | fail) ?_; dsimp only)); refine eql24 rfl rfl rfl rfl true (by first | exact c41b0 | (simpa using c41b0) | exact c46b0 | (simpa using c46b0) | exact c69b0 | (simpa using c69b0)) ?_; (try simp only [Act.put, List.setIfInBounds_toArray, List.set_cons_zero, List.set_cons_succ])) | ((with_reducible refine gate_eql (ty := 24) rfl ?_); (try (with_reducible refine gate_gd rfl ?_; refine gate_guard (by first | rfl | exact wanted_on rfl rfl rfl (by first | rfl | (simp [*]; done) | fail) | fail) ?_; dsimp only)); refine eql24 rfl rfl rfl rfl false (by first | exact c41b0 | (simpa using c41b0) | exact c46b0 | (simpa using c46b0) | exact c69b0 | (simpa using c69b0)) ?_; (try simp only [Act.put, List.setIfInBounds_toArray, List.set_cons_zero, List.set_cons_succ])) | (go_at_call 25; (with_reducible refine (gangwayref09_word.calls a0_11 true _ A12.out).mono ?_); rintro e w' ⟨rfl, ⟨nd, rfl⟩⟩) | (go_at_call 25; (with_reducible refine (gangwayref09_word.calls a0_12 true _ A14.out).mono ?_); rintro e w' ⟨rfl, ⟨nd, rfl⟩⟩) | (go_at_call 25; (with_reducible refine (gangwayref09_word.calls a0_13 true _ A16.out).mono ?_); rintro e w' ⟨rfl, ⟨nd, rfl⟩⟩) | (go_at_call 25; (with_reducible refine (gangwayref09_word.calls a0_14 false _ A18.out).mono ?_); rintro e w' ⟨rfl, ⟨nd, rfl⟩⟩))
          go_meet
          case rel => exact ⟨_, (false), (by first | rfl | (simp; done) | (simp [*]; done)), H', ⟨by first | omega | exact Nat.le_refl _⟩, ⟨by (with_reducible repeat (first | refine blk_drewN ?_ _ | refine blk_drew ?_ | refine blk_alloc ?_ _ | refine blk_far ?_ NB130_131.out _)); exact BK130.out⟩, ⟨by (with_reducible repeat (first | refine blk_drewN ?_ _ | refine blk_drew ?_ | refine blk_alloc ?_ _)); exact put16_0_16 (by (with_reducible repeat (first | refine blk_drewN ?_ _ | refine blk_drew ?_ | refine blk_alloc ?_ _)); exact BK131.out)⟩, ⟨by repeat (first | (with_reducible first | exact HB.out | apply below_alloc | apply pw_below_drewN | apply below_drew1 | refine below_set ?_ GE130.out | refine below_set ?_ GE131.out) | exact HB.out)⟩⟩
        ·replace c17 := Bool.eq_false_iff.mpr c17
         subst c17
         have H1 : (gangwayref09_Check.j0 k false a0_0 a0_1 a0_2 a0_3 a0_4 a0_5 a0_6 a0_7 a0_8 a0_9 a0_10 a0_11 a0_12 a0_13 a0_14 a0_15 a0_0 a0_1 false false false false a0_6 0 a0_8 a0_9 a0_10 a0_11 a0_12 a0_13 a0_14 a0_15) = some r := by rw [if_neg (show ¬ (false = true) by decide)] at H; exact H
         clear H
         have H := H1
         clear H1
         have H' := Aside0.mk H
         clear H
         have hnb25 := NB130_131.out
         have hnc25 := NB131_130.out
         obtain ⟨hcz26_0, hcz26_1, hcz26_2, hcz26_3, hcz26_4, hcz26_5, hcz26_6, hcz26_7, hcz26_8, hcz26_9, hcz26_10, hcz26_11, hcz26_12, hcz26_13, hcz26_14, hcz26_15⟩ := cells16 BK130.out
         obtain ⟨hfz26_0, hfz26_1, hfz26_2, hfz26_3, hfz26_4, hfz26_5, hfz26_6, hfz26_7, hfz26_8, hfz26_9, hfz26_10, hfz26_11, hfz26_12, hfz26_13, hfz26_14, hfz26_15⟩ := frozen16 BK130.out
         go_wp2_with (first | ((with_reducible refine gate_st (ty := 24) rfl ?_); (try (with_reducible refine gate_gd rfl ?_; refine gate_guard (by first | rfl | exact wanted_on rfl rfl rfl (by first | rfl | (simp [*]; done) | fail) | fail) ?_; dsimp only)); refine storeC16 rfl rfl rfl rfl rfl (by repeat (first | (with_reducible apply blk_far; case hp => assumption) | (with_reducible apply blk_set) | (with_reducible refine blk_drewN ?_ _) | (with_reducible refine blk_drew ?_) | (with_reducible refine blk_alloc ?_ _) | (first | with_reducible exact BK130.out | with_reducible exact BK131.out))) (by first | (simp only [List.setIfInBounds_toArray, List.set_cons_zero, List.set_cons_succ] <;> rfl) | rfl) (by kernel_rfl) rfl ?_) | ((with_reducible refine gate_ld (ty := 24) rfl ?_); (try (with_reducible refine gate_gd rfl ?_; refine gate_guard (by first | rfl | exact wanted_on rfl rfl rfl (by first | rfl | (simp [*]; done) | fail) | fail) ?_; dsimp only)); refine load_st rfl rfl rfl (by repeat (first | (with_reducible apply blk_far; case hp => assumption) | (with_reducible apply blk_set) | (with_reducible refine blk_drewN ?_ _) | (with_reducible refine blk_drew ?_) | (with_reducible refine blk_alloc ?_ _) | (first | with_reducible exact BK130.out | with_reducible exact BK131.out))) (by first | (simp only [List.setIfInBounds_toArray, List.set_cons_zero, List.set_cons_succ] <;> rfl) | rfl) Tryd.underlying24 rfl (by kernel_rfl) ?_; (try simp only [Act.put, List.setIfInBounds_toArray, List.set_cons_zero, List.set_cons_succ])) | ((with_reducible refine gate_eql (ty := 24) rfl ?_); (try (with_reducible refine gate_gd rfl ?_; refine gate_guard (by first | rfl | exact wanted_on rfl rfl rfl (by first | rfl | (simp [*]; done) | fail) | fail) ?_; dsimp only)); refine eql24 rfl rfl rfl rfl true (by first | exact c41b0 | (simpa using c41b0) | exact c46b0 | (simpa using c46b0) | exact c69b0 | (simpa using c69b0)) ?_; (try simp only [Act.put, List.setIfInBounds_toArray, List.set_cons_zero, List.set_cons_succ])) | ((with_reducible refine gate_eql (ty := 24) rfl ?_); (try (with_reducible refine gate_gd rfl ?_; refine gate_guard (by first | rfl | exact wanted_on rfl rfl rfl (by first | rfl | (simp [*]; done) | fail) | fail) ?_; dsimp only)); refine eql24 rfl rfl rfl rfl false (by first | exact c41b0 | (simpa using c41b0) | exact c46b0 | (simpa using c46b0) | exact c69b0 | (simpa using c69b0)) ?_; (try simp only [Act.put, List.setIfInBounds_toArray, List.set_cons_zero, List.set_cons_succ])) | (go_at_call 25; (with_reducible refine (gangwayref09_word.calls a0_11 true _ A12.out).mono ?_); rintro e w' ⟨rfl, ⟨nd, rfl⟩⟩) | (go_at_call 25; (with_reducible refine (gangwayref09_word.calls a0_12 true _ A14.out).mono ?_); rintro e w' ⟨rfl, ⟨nd, rfl⟩⟩) | (go_at_call 25; (with_reducible refine (gangwayref09_word.calls a0_13 false _ A16.out).mono ?_); rintro e w' ⟨rfl, ⟨nd, rfl⟩⟩))
         go_meet
         case rel => exact ⟨_, (false), (by first | rfl | (simp; done) | (simp [*]; done)), H', ⟨by first | omega | exact Nat.le_refl _⟩, ⟨by (with_reducible repeat (first | refine blk_drewN ?_ _ | refine blk_drew ?_ | refine blk_alloc ?_ _ | refine blk_far ?_ NB130_131.out _)); exact BK130.out⟩, ⟨by (with_reducible repeat (first | refine blk_drewN ?_ _ | refine blk_drew ?_ | refine blk_alloc ?_ _)); exact put16_0_16 (by (with_reducible repeat (first | refine blk_drewN ?_ _ | refine blk_drew ?_ | refine blk_alloc ?_ _)); exact BK131.out)⟩, ⟨by repeat (first | (with_reducible first | exact HB.out | apply below_alloc | apply pw_below_drewN | apply below_drew1 | refine below_set ?_ GE130.out | refine below_set ?_ GE131.out) | exact HB.out)⟩⟩
       ·replace c15 := Bool.eq_false_iff.mpr c15
        subst c15
        have H1 : (gangwayref09_Check.j0 k false a0_0 a0_1 a0_2 a0_3 a0_4 a0_5 a0_6 a0_7 a0_8 a0_9 a0_10 a0_11 a0_12 a0_13 a0_14 a0_15 a0_0 a0_1 false false false false a0_6 0 a0_8 a0_9 a0_10 a0_11 a0_12 a0_13 a0_14 a0_15) = some r := by rw [if_neg (show ¬ (false = true) by decide)] at H; exact H
        clear H
        have H := H1
        clear H1
        have H' := Aside0.mk H
        clear H
        have hnb27 := NB130_131.out
        have hnc27 := NB131_130.out
        obtain ⟨hcz28_0, hcz28_1, hcz28_2, hcz28_3, hcz28_4, hcz28_5, hcz28_6, hcz28_7, hcz28_8, hcz28_9, hcz28_10, hcz28_11, hcz28_12, hcz28_13, hcz28_14, hcz28_15⟩ := cells16 BK130.out
        obtain ⟨hfz28_0, hfz28_1, hfz28_2, hfz28_3, hfz28_4, hfz28_5, hfz28_6, hfz28_7, hfz28_8, hfz28_9, hfz28_10, hfz28_11, hfz28_12, hfz28_13, hfz28_14, hfz28_15⟩ := frozen16 BK130.out
        go_wp2_with (first | ((with_reducible refine gate_st (ty := 24) rfl ?_); (try (with_reducible refine gate_gd rfl ?_; refine gate_guard (by first | rfl | exact wanted_on rfl rfl rfl (by first | rfl | (simp [*]; done) | fail) | fail) ?_; dsimp only)); refine storeC16 rfl rfl rfl rfl rfl (by repeat (first | (with_reducible apply blk_far; case hp => assumption) | (with_reducible apply blk_set) | (with_reducible refine blk_drewN ?_ _) | (with_reducible refine blk_drew ?_) | (with_reducible refine blk_alloc ?_ _) | (first | with_reducible exact BK130.out | with_reducible exact BK131.out))) (by first | (simp only [List.setIfInBounds_toArray, List.set_cons_zero, List.set_cons_succ] <;> rfl) | rfl) (by kernel_rfl) rfl ?_) | ((with_reducible refine gate_ld (ty := 24) rfl ?_); (try (with_reducible refine gate_gd rfl ?_; refine gate_guard (by first | rfl | exact wanted_on rfl rfl rfl (by first | rfl | (simp [*]; done) | fail) | fail) ?_; dsimp only)); refine load_st rfl rfl rfl (by repeat (first | (with_reducible apply blk_far; case hp => assumption) | (with_reducible apply blk_set) | (with_reducible refine blk_drewN ?_ _) | (with_reducible refine blk_drew ?_) | (with_reducible refine blk_alloc ?_ _) | (first | with_reducible exact BK130.out | with_reducible exact BK131.out))) (by first | (simp only [List.setIfInBounds_toArray, List.set_cons_zero, List.set_cons_succ] <;> rfl) | rfl) Tryd.underlying24 rfl (by kernel_rfl) ?_; (try simp only [Act.put, List.setIfInBounds_toArray, List.set_cons_zero, List.set_cons_succ])) | ((with_reducible refine gate_eql (ty := 24) rfl ?_); (try (with_reducible refine gate_gd rfl ?_; refine gate_guard (by first | rfl | exact wanted_on rfl rfl rfl (by first | rfl | (simp [*]; done) | fail) | fail) ?_; dsimp only)); refine eql24 rfl rfl rfl rfl true (by first | exact c41b0 | (simpa using c41b0) | exact c46b0 | (simpa using c46b0) | exact c69b0 | (simpa using c69b0)) ?_; (try simp only [Act.put, List.setIfInBounds_toArray, List.set_cons_zero, List.set_cons_succ])) | ((with_reducible refine gate_eql (ty := 24) rfl ?_); (try (with_reducible refine gate_gd rfl ?_; refine gate_guard (by first | rfl | exact wanted_on rfl rfl rfl (by first | rfl | (simp [*]; done) | fail) | fail) ?_; dsimp only)); refine eql24 rfl rfl rfl rfl false (by first | exact c41b0 | (simpa using c41b0) | exact c46b0 | (simpa using c46b0) | exact c69b0 | (simpa using c69b0)) ?_; (try simp only [Act.put, List.setIfInBounds_toArray, List.set_cons_zero, List.set_cons_succ])) | (go_at_call 25; (with_reducible refine (gangwayref09_word.calls a0_11 true _ A12.out).mono ?_); rintro e w' ⟨rfl, ⟨nd, rfl⟩⟩) | (go_at_call 25; (with_reducible refine (gangwayref09_word.calls a0_12 false _ A14.out).mono ?_); rintro e w' ⟨rfl, ⟨nd, rfl⟩⟩))
        go_meet
        case rel => exact ⟨_, (false), (by first | rfl | (simp; done) | (simp [*]; done)), H', ⟨by first | omega | exact Nat.le_refl _⟩, ⟨by (with_reducible repeat (first | refine blk_drewN ?_ _ | refine blk_drew ?_ | refine blk_alloc ?_ _ | refine blk_far ?_ NB130_131.out _)); exact BK130.out⟩, ⟨by (with_reducible repeat (first | refine blk_drewN ?_ _ | refine blk_drew ?_ | refine blk_alloc ?_ _)); exact put16_0_16 (by (with_reducible repeat (first | refine blk_drewN ?_ _ | refine blk_drew ?_ | refine blk_alloc ?_ _)); exact BK131.out)⟩, ⟨by repeat (first | (with_reducible first | exact HB.out | apply below_alloc | apply pw_below_drewN | apply below_drew1 | refine below_set ?_ GE130.out | refine below_set ?_ GE131.out) | exact HB.out)⟩⟩
      ·replace c13 := Bool.eq_false_iff.mpr c13
       subst c13
       have H1 : (gangwayref09_Check.j0 k false a0_0 a0_1 a0_2 a0_3 a0_4 a0_5 a0_6 a0_7 a0_8 a0_9 a0_10 a0_11 a0_12 a0_13 a0_14 a0_15 a0_0 a0_1 false false false false a0_6 0 a0_8 a0_9 a0_10 a0_11 a0_12 a0_13 a0_14 a0_15) = some r := by rw [if_neg (show ¬ (false = true) by decide)] at H; exact H
       clear H
       have H := H1
       clear H1
       have H' := Aside0.mk H
       clear H
       have hnb29 := NB130_131.out
       have hnc29 := NB131_130.out
       obtain ⟨hcz30_0, hcz30_1, hcz30_2, hcz30_3, hcz30_4, hcz30_5, hcz30_6, hcz30_7, hcz30_8, hcz30_9, hcz30_10, hcz30_11, hcz30_12, hcz30_13, hcz30_14, hcz30_15⟩ := cells16 BK130.out
       obtain ⟨hfz30_0, hfz30_1, hfz30_2, hfz30_3, hfz30_4, hfz30_5, hfz30_6, hfz30_7, hfz30_8, hfz30_9, hfz30_10, hfz30_11, hfz30_12, hfz30_13, hfz30_14, hfz30_15⟩ := frozen16 BK130.out
       go_wp2_with (first | ((with_reducible refine gate_st (ty := 24) rfl ?_); (try (with_reducible refine gate_gd rfl ?_; refine gate_guard (by first | rfl | exact wanted_on rfl rfl rfl (by first | rfl | (simp [*]; done) | fail) | fail) ?_; dsimp only)); refine storeC16 rfl rfl rfl rfl rfl (by repeat (first | (with_reducible apply blk_far; case hp => assumption) | (with_reducible apply blk_set) | (with_reducible refine blk_drewN ?_ _) | (with_reducible refine blk_drew ?_) | (with_reducible refine blk_alloc ?_ _) | (first | with_reducible exact BK130.out | with_reducible exact BK131.out))) (by first | (simp only [List.setIfInBounds_toArray, List.set_cons_zero, List.set_cons_succ] <;> rfl) | rfl) (by kernel_rfl) rfl ?_) | ((with_reducible refine gate_ld (ty := 24) rfl ?_); (try (with_reducible refine gate_gd rfl ?_; refine gate_guard (by first | rfl | exact wanted_on rfl rfl rfl (by first | rfl | (simp [*]; done) | fail) | fail) ?_; dsimp only)); refine load_st rfl rfl rfl (by repeat (first | (with_reducible apply blk_far; case hp => assumption) | (with_reducible apply blk_set) | (with_reducible refine blk_drewN ?_ _) | (with_reducible refine blk_drew ?_) | (with_reducible refine blk_alloc ?_ _) | (first | with_reducible exact BK130.out | with_reducible exact BK131.out))) (by first | (simp only [List.setIfInBounds_toArray, List.set_cons_zero, List.set_cons_succ] <;> rfl) | rfl) Tryd.underlying24 rfl (by kernel_rfl) ?_; (try simp only [Act.put, List.setIfInBounds_toArray, List.set_cons_zero, List.set_cons_succ])) | ((with_reducible refine gate_eql (ty := 24) rfl ?_); (try (with_reducible refine gate_gd rfl ?_; refine gate_guard (by first | rfl | exact wanted_on rfl rfl rfl (by first | rfl | (simp [*]; done) | fail) | fail) ?_; dsimp only)); refine eql24 rfl rfl rfl rfl true (by first | exact c41b0 | (simpa using c41b0) | exact c46b0 | (simpa using c46b0) | exact c69b0 | (simpa using c69b0)) ?_; (try simp only [Act.put, List.setIfInBounds_toArray, List.set_cons_zero, List.set_cons_succ])) | ((with_reducible refine gate_eql (ty := 24) rfl ?_); (try (with_reducible refine gate_gd rfl ?_; refine gate_guard (by first | rfl | exact wanted_on rfl rfl rfl (by first | rfl | (simp [*]; done) | fail) | fail) ?_; dsimp only)); refine eql24 rfl rfl rfl rfl false (by first | exact c41b0 | (simpa using c41b0) | exact c46b0 | (simpa using c46b0) | exact c69b0 | (simpa using c69b0)) ?_; (try simp only [Act.put, List.setIfInBounds_toArray, List.set_cons_zero, List.set_cons_succ])) | (go_at_call 25; (with_reducible refine (gangwayref09_word.calls a0_11 false _ A12.out).mono ?_); rintro e w' ⟨rfl, ⟨nd, rfl⟩⟩))
       go_meet
       case rel => exact ⟨_, (false), (by first | rfl | (simp; done) | (simp [*]; done)), H', ⟨by first | omega | exact Nat.le_refl _⟩, ⟨by (with_reducible repeat (first | refine blk_drewN ?_ _ | refine blk_drew ?_ | refine blk_alloc ?_ _ | refine blk_far ?_ NB130_131.out _)); exact BK130.out⟩, ⟨by (with_reducible repeat (first | refine blk_drewN ?_ _ | refine blk_drew ?_ | refine blk_alloc ?_ _)); exact put16_0_16 (by (with_reducible repeat (first | refine blk_drewN ?_ _ | refine blk_drew ?_ | refine blk_alloc ?_ _)); exact BK131.out)⟩, ⟨by repeat (first | (with_reducible first | exact HB.out | apply below_alloc | apply pw_below_drewN | apply below_drew1 | refine below_set ?_ GE130.out | refine below_set ?_ GE131.out) | exact HB.out)⟩⟩
     ·rw [if_neg c11] at H
      have c11b0 : decide (a0_9 ≤ 4294967295) = false := decide_eq_false c11
      clear c11
      have H' := Aside0.mk H
      clear H
      have hnb31 := NB130_131.out
      have hnc31 := NB131_130.out
      obtain ⟨hcz32_0, hcz32_1, hcz32_2, hcz32_3, hcz32_4, hcz32_5, hcz32_6, hcz32_7, hcz32_8, hcz32_9, hcz32_10, hcz32_11, hcz32_12, hcz32_13, hcz32_14, hcz32_15⟩ := cells16 BK130.out
      obtain ⟨hfz32_0, hfz32_1, hfz32_2, hfz32_3, hfz32_4, hfz32_5, hfz32_6, hfz32_7, hfz32_8, hfz32_9, hfz32_10, hfz32_11, hfz32_12, hfz32_13, hfz32_14, hfz32_15⟩ := frozen16 BK130.out
      go_wp2_with (first | ((with_reducible refine gate_st (ty := 24) rfl ?_); (try (with_reducible refine gate_gd rfl ?_; refine gate_guard (by first | rfl | exact wanted_on rfl rfl rfl (by first | rfl | (simp [*]; done) | fail) | fail) ?_; dsimp only)); refine storeC16 rfl rfl rfl rfl rfl (by repeat (first | (with_reducible apply blk_far; case hp => assumption) | (with_reducible apply blk_set) | (with_reducible refine blk_drewN ?_ _) | (with_reducible refine blk_drew ?_) | (with_reducible refine blk_alloc ?_ _) | (first | with_reducible exact BK130.out | with_reducible exact BK131.out))) (by first | (simp only [List.setIfInBounds_toArray, List.set_cons_zero, List.set_cons_succ] <;> rfl) | rfl) (by kernel_rfl) rfl ?_) | ((with_reducible refine gate_ld (ty := 24) rfl ?_); (try (with_reducible refine gate_gd rfl ?_; refine gate_guard (by first | rfl | exact wanted_on rfl rfl rfl (by first | rfl | (simp [*]; done) | fail) | fail) ?_; dsimp only)); refine load_st rfl rfl rfl (by repeat (first | (with_reducible apply blk_far; case hp => assumption) | (with_reducible apply blk_set) | (with_reducible refine blk_drewN ?_ _) | (with_reducible refine blk_drew ?_) | (with_reducible refine blk_alloc ?_ _) | (first | with_reducible exact BK130.out | with_reducible exact BK131.out))) (by first | (simp only [List.setIfInBounds_toArray, List.set_cons_zero, List.set_cons_succ] <;> rfl) | rfl) Tryd.underlying24 rfl (by kernel_rfl) ?_; (try simp only [Act.put, List.setIfInBounds_toArray, List.set_cons_zero, List.set_cons_succ])) | ((with_reducible refine gate_eql (ty := 24) rfl ?_); (try (with_reducible refine gate_gd rfl ?_; refine gate_guard (by first | rfl | exact wanted_on rfl rfl rfl (by first | rfl | (simp [*]; done) | fail) | fail) ?_; dsimp only)); refine eql24 rfl rfl rfl rfl true (by first | exact c41b0 | (simpa using c41b0) | exact c46b0 | (simpa using c46b0) | exact c69b0 | (simpa using c69b0)) ?_; (try simp only [Act.put, List.setIfInBounds_toArray, List.set_cons_zero, List.set_cons_succ])) | ((with_reducible refine gate_eql (ty := 24) rfl ?_); (try (with_reducible refine gate_gd rfl ?_; refine gate_guard (by first | rfl | exact wanted_on rfl rfl rfl (by first | rfl | (simp [*]; done) | fail) | fail) ?_; dsimp only)); refine eql24 rfl rfl rfl rfl false (by first | exact c41b0 | (simpa using c41b0) | exact c46b0 | (simpa using c46b0) | exact c69b0 | (simpa using c69b0)) ?_; (try simp only [Act.put, List.setIfInBounds_toArray, List.set_cons_zero, List.set_cons_succ])) | go_in)
      go_meet
      case rel => exact ⟨_, (false), (by first | rfl | (simp; done) | (simp [*]; done)), H', ⟨by first | omega | exact Nat.le_refl _⟩, ⟨by (with_reducible repeat (first | refine blk_drewN ?_ _ | refine blk_drew ?_ | refine blk_alloc ?_ _ | refine blk_far ?_ NB130_131.out _)); exact BK130.out⟩, ⟨by (with_reducible repeat (first | refine blk_drewN ?_ _ | refine blk_drew ?_ | refine blk_alloc ?_ _)); exact put16_0_16 (by (with_reducible repeat (first | refine blk_drewN ?_ _ | refine blk_drew ?_ | refine blk_alloc ?_ _)); exact BK131.out)⟩, ⟨by repeat (first | (with_reducible first | exact HB.out | apply below_alloc | apply pw_below_drewN | apply below_drew1 | refine below_set ?_ GE130.out | refine below_set ?_ GE131.out) | exact HB.out)⟩⟩
    ·rw [if_neg c10] at H
     have c10b0 : decide (0 ≤ a0_9) = false := decide_eq_false c10
     clear c10
     have H' := Aside0.mk H
     clear H
     have hnb33 := NB130_131.out
     have hnc33 := NB131_130.out
     obtain ⟨hcz34_0, hcz34_1, hcz34_2, hcz34_3, hcz34_4, hcz34_5, hcz34_6, hcz34_7, hcz34_8, hcz34_9, hcz34_10, hcz34_11, hcz34_12, hcz34_13, hcz34_14, hcz34_15⟩ := cells16 BK130.out
     obtain ⟨hfz34_0, hfz34_1, hfz34_2, hfz34_3, hfz34_4, hfz34_5, hfz34_6, hfz34_7, hfz34_8, hfz34_9, hfz34_10, hfz34_11, hfz34_12, hfz34_13, hfz34_14, hfz34_15⟩ := frozen16 BK130.out
     go_wp2_with (first | ((with_reducible refine gate_st (ty := 24) rfl ?_); (try (with_reducible refine gate_gd rfl ?_; refine gate_guard (by first | rfl | exact wanted_on rfl rfl rfl (by first | rfl | (simp [*]; done) | fail) | fail) ?_; dsimp only)); refine storeC16 rfl rfl rfl rfl rfl (by repeat (first | (with_reducible apply blk_far; case hp => assumption) | (with_reducible apply blk_set) | (with_reducible refine blk_drewN ?_ _) | (with_reducible refine blk_drew ?_) | (with_reducible refine blk_alloc ?_ _) | (first | with_reducible exact BK130.out | with_reducible exact BK131.out))) (by first | (simp only [List.setIfInBounds_toArray, List.set_cons_zero, List.set_cons_succ] <;> rfl) | rfl) (by kernel_rfl) rfl ?_) | ((with_reducible refine gate_ld (ty := 24) rfl ?_); (try (with_reducible refine gate_gd rfl ?_; refine gate_guard (by first | rfl | exact wanted_on rfl rfl rfl (by first | rfl | (simp [*]; done) | fail) | fail) ?_; dsimp only)); refine load_st rfl rfl rfl (by repeat (first | (with_reducible apply blk_far; case hp => assumption) | (with_reducible apply blk_set) | (with_reducible refine blk_drewN ?_ _) | (with_reducible refine blk_drew ?_) | (with_reducible refine blk_alloc ?_ _) | (first | with_reducible exact BK130.out | with_reducible exact BK131.out))) (by first | (simp only [List.setIfInBounds_toArray, List.set_cons_zero, List.set_cons_succ] <;> rfl) | rfl) Tryd.underlying24 rfl (by kernel_rfl) ?_; (try simp only [Act.put, List.setIfInBounds_toArray, List.set_cons_zero, List.set_cons_succ])) | ((with_reducible refine gate_eql (ty := 24) rfl ?_); (try (with_reducible refine gate_gd rfl ?_; refine gate_guard (by first | rfl | exact wanted_on rfl rfl rfl (by first | rfl | (simp [*]; done) | fail) | fail) ?_; dsimp only)); refine eql24 rfl rfl rfl rfl true (by first | exact c41b0 | (simpa using c41b0) | exact c46b0 | (simpa using c46b0) | exact c69b0 | (simpa using c69b0)) ?_; (try simp only [Act.put, List.setIfInBounds_toArray, List.set_cons_zero, List.set_cons_succ])) | ((with_reducible refine gate_eql (ty := 24) rfl ?_); (try (with_reducible refine gate_gd rfl ?_; refine gate_guard (by first | rfl | exact wanted_on rfl rfl rfl (by first | rfl | (simp [*]; done) | fail) | fail) ?_; dsimp only)); refine eql24 rfl rfl rfl rfl false (by first | exact c41b0 | (simpa using c41b0) | exact c46b0 | (simpa using c46b0) | exact c69b0 | (simpa using c69b0)) ?_; (try simp only [Act.put, List.setIfInBounds_toArray, List.set_cons_zero, List.set_cons_succ])) | go_in)
     go_meet
     case rel => exact ⟨_, (false), (by first | rfl | (simp; done) | (simp [*]; done)), H', ⟨by first | omega | exact Nat.le_refl _⟩, ⟨by (with_reducible repeat (first | refine blk_drewN ?_ _ | refine blk_drew ?_ | refine blk_alloc ?_ _ | refine blk_far ?_ NB130_131.out _)); exact BK130.out⟩, ⟨by (with_reducible repeat (first | refine blk_drewN ?_ _ | refine blk_drew ?_ | refine blk_alloc ?_ _)); exact put16_0_16 (by (with_reducible repeat (first | refine blk_drewN ?_ _ | refine blk_drew ?_ | refine blk_alloc ?_ _)); exact BK131.out)⟩, ⟨by repeat (first | (with_reducible first | exact HB.out | apply below_alloc | apply pw_below_drewN | apply below_drew1 | refine below_set ?_ GE130.out | refine below_set ?_ GE131.out) | exact HB.out)⟩⟩
   ·rw [if_neg c9] at H
    have c9b0 : decide (a0_7 ≤ 3) = false := decide_eq_false c9
    clear c9
    have H' := Aside0.mk H
    clear H
    have hnb35 := NB130_131.out
    have hnc35 := NB131_130.out
    obtain ⟨hcz36_0, hcz36_1, hcz36_2, hcz36_3, hcz36_4, hcz36_5, hcz36_6, hcz36_7, hcz36_8, hcz36_9, hcz36_10, hcz36_11, hcz36_12, hcz36_13, hcz36_14, hcz36_15⟩ := cells16 BK130.out
    obtain ⟨hfz36_0, hfz36_1, hfz36_2, hfz36_3, hfz36_4, hfz36_5, hfz36_6, hfz36_7, hfz36_8, hfz36_9, hfz36_10, hfz36_11, hfz36_12, hfz36_13, hfz36_14, hfz36_15⟩ := frozen16 BK130.out
    go_wp2_with (first | ((with_reducible refine gate_st (ty := 24) rfl ?_); (try (with_reducible refine gate_gd rfl ?_; refine gate_guard (by first | rfl | exact wanted_on rfl rfl rfl (by first | rfl | (simp [*]; done) | fail) | fail) ?_; dsimp only)); refine storeC16 rfl rfl rfl rfl rfl (by repeat (first | (with_reducible apply blk_far; case hp => assumption) | (with_reducible apply blk_set) | (with_reducible refine blk_drewN ?_ _) | (with_reducible refine blk_drew ?_) | (with_reducible refine blk_alloc ?_ _) | (first | with_reducible exact BK130.out | with_reducible exact BK131.out))) (by first | (simp only [List.setIfInBounds_toArray, List.set_cons_zero, List.set_cons_succ] <;> rfl) | rfl) (by kernel_rfl) rfl ?_) | ((with_reducible refine gate_ld (ty := 24) rfl ?_); (try (with_reducible refine gate_gd rfl ?_; refine gate_guard (by first | rfl | exact wanted_on rfl rfl rfl (by first | rfl | (simp [*]; done) | fail) | fail) ?_; dsimp only)); refine load_st rfl rfl rfl (by repeat (first | (with_reducible apply blk_far; case hp => assumption) | (with_reducible apply blk_set) | (with_reducible refine blk_drewN ?_ _) | (with_reducible refine blk_drew ?_) | (with_reducible refine blk_alloc ?_ _) | (first | with_reducible exact BK130.out | with_reducible exact BK131.out))) (by first | (simp only [List.setIfInBounds_toArray, List.set_cons_zero, List.set_cons_succ] <;> rfl) | rfl) Tryd.underlying24 rfl (by kernel_rfl) ?_; (try simp only [Act.put, List.setIfInBounds_toArray, List.set_cons_zero, List.set_cons_succ])) | ((with_reducible refine gate_eql (ty := 24) rfl ?_); (try (with_reducible refine gate_gd rfl ?_; refine gate_guard (by first | rfl | exact wanted_on rfl rfl rfl (by first | rfl | (simp [*]; done) | fail) | fail) ?_; dsimp only)); refine eql24 rfl rfl rfl rfl true (by first | exact c41b0 | (simpa using c41b0) | exact c46b0 | (simpa using c46b0) | exact c69b0 | (simpa using c69b0)) ?_; (try simp only [Act.put, List.setIfInBounds_toArray, List.set_cons_zero, List.set_cons_succ])) | ((with_reducible refine gate_eql (ty := 24) rfl ?_); (try (with_reducible refine gate_gd rfl ?_; refine gate_guard (by first | rfl | exact wanted_on rfl rfl rfl (by first | rfl | (simp [*]; done) | fail) | fail) ?_; dsimp only)); refine eql24 rfl rfl rfl rfl false (by first | exact c41b0 | (simpa using c41b0) | exact c46b0 | (simpa using c46b0) | exact c69b0 | (simpa using c69b0)) ?_; (try simp only [Act.put, List.setIfInBounds_toArray, List.set_cons_zero, List.set_cons_succ])) | go_in)
    go_meet
    case rel => exact ⟨_, (false), (by first | rfl | (simp; done) | (simp [*]; done)), H', ⟨by first | omega | exact Nat.le_refl _⟩, ⟨by (with_reducible repeat (first | refine blk_drewN ?_ _ | refine blk_drew ?_ | refine blk_alloc ?_ _ | refine blk_far ?_ NB130_131.out _)); exact BK130.out⟩, ⟨by (with_reducible repeat (first | refine blk_drewN ?_ _ | refine blk_drew ?_ | refine blk_alloc ?_ _)); exact put16_0_16 (by (with_reducible repeat (first | refine blk_drewN ?_ _ | refine blk_drew ?_ | refine blk_alloc ?_ _)); exact BK131.out)⟩, ⟨by repeat (first | (with_reducible first | exact HB.out | apply below_alloc | apply pw_below_drewN | apply below_drew1 | refine below_set ?_ GE130.out | refine below_set ?_ GE131.out) | exact HB.out)⟩⟩
  ·rw [if_neg c8] at H
   have c8b0 : decide (0 ≤ a0_7) = false := decide_eq_false c8
   clear c8
   (first | rw [c8b0] | (simp only [i64_w, i32_w]; rw [c8b0]) | skip)
   have H' := Aside0.mk H
   clear H
   have hnb37 := NB130_131.out
   have hnc37 := NB131_130.out
   obtain ⟨hcz38_0, hcz38_1, hcz38_2, hcz38_3, hcz38_4, hcz38_5, hcz38_6, hcz38_7, hcz38_8, hcz38_9, hcz38_10, hcz38_11, hcz38_12, hcz38_13, hcz38_14, hcz38_15⟩ := cells16 BK130.out
   obtain ⟨hfz38_0, hfz38_1, hfz38_2, hfz38_3, hfz38_4, hfz38_5, hfz38_6, hfz38_7, hfz38_8, hfz38_9, hfz38_10, hfz38_11, hfz38_12, hfz38_13, hfz38_14, hfz38_15⟩ := frozen16 BK130.out
   go_wp2_with (first | ((with_reducible refine gate_st (ty := 24) rfl ?_); (try (with_reducible refine gate_gd rfl ?_; refine gate_guard (by first | rfl | exact wanted_on rfl rfl rfl (by first | rfl | (simp [*]; done) | fail) | fail) ?_; dsimp only)); refine storeC16 rfl rfl rfl rfl rfl (by repeat (first | (with_reducible apply blk_far; case hp => assumption) | (with_reducible apply blk_set) | (with_reducible refine blk_drewN ?_ _) | (with_reducible refine blk_drew ?_) | (with_reducible refine blk_alloc ?_ _) | (first | with_reducible exact BK130.out | with_reducible exact BK131.out))) (by first | (simp only [List.setIfInBounds_toArray, List.set_cons_zero, List.set_cons_succ] <;> rfl) | rfl) (by kernel_rfl) rfl ?_) | ((with_reducible refine gate_ld (ty := 24) rfl ?_); (try (with_reducible refine gate_gd rfl ?_; refine gate_guard (by first | rfl | exact wanted_on rfl rfl rfl (by first | rfl | (simp [*]; done) | fail) | fail) ?_; dsimp only)); refine load_st rfl rfl rfl (by repeat (first | (with_reducible apply blk_far; case hp => assumption) | (with_reducible apply blk_set) | (with_reducible refine blk_drewN ?_ _) | (with_reducible refine blk_drew ?_) | (with_reducible refine blk_alloc ?_ _) | (first | with_reducible exact BK130.out | with_reducible exact BK131.out))) (by first | (simp only [List.setIfInBounds_toArray, List.set_cons_zero, List.set_cons_succ] <;> rfl) | rfl) Tryd.underlying24 rfl (by kernel_rfl) ?_; (try simp only [Act.put, List.setIfInBounds_toArray, List.set_cons_zero, List.set_cons_succ])) | ((with_reducible refine gate_eql (ty := 24) rfl ?_); (try (with_reducible refine gate_gd rfl ?_; refine gate_guard (by first | rfl | exact wanted_on rfl rfl rfl (by first | rfl | (simp [*]; done) | fail) | fail) ?_; dsimp only)); refine eql24 rfl rfl rfl rfl true (by first | exact c41b0 | (simpa using c41b0) | exact c46b0 | (simpa using c46b0) | exact c69b0 | (simpa using c69b0)) ?_; (try simp only [Act.put, List.setIfInBounds_toArray, List.set_cons_zero, List.set_cons_succ])) | ((with_reducible refine gate_eql (ty := 24) rfl ?_); (try (with_reducible refine gate_gd rfl ?_; refine gate_guard (by first | rfl | exact wanted_on rfl rfl rfl (by first | rfl | (simp [*]; done) | fail) | fail) ?_; dsimp only)); refine eql24 rfl rfl rfl rfl false (by first | exact c41b0 | (simpa using c41b0) | exact c46b0 | (simpa using c46b0) | exact c69b0 | (simpa using c69b0)) ?_; (try simp only [Act.put, List.setIfInBounds_toArray, List.set_cons_zero, List.set_cons_succ])) | go_in)
   go_meet
   case rel => exact ⟨_, (false), (by first | rfl | (simp; done) | (simp [*]; done)), H', ⟨by first | omega | exact Nat.le_refl _⟩, ⟨by (with_reducible repeat (first | refine blk_drewN ?_ _ | refine blk_drew ?_ | refine blk_alloc ?_ _ | refine blk_far ?_ NB130_131.out _)); exact BK130.out⟩, ⟨by (with_reducible repeat (first | refine blk_drewN ?_ _ | refine blk_drew ?_ | refine blk_alloc ?_ _)); exact put16_0_16 (by (with_reducible repeat (first | refine blk_drewN ?_ _ | refine blk_drew ?_ | refine blk_alloc ?_ _)); exact BK131.out)⟩, ⟨by repeat (first | (with_reducible first | exact HB.out | apply below_alloc | apply pw_below_drewN | apply below_drew1 | refine below_set ?_ GE130.out | refine below_set ?_ GE131.out) | exact HB.out)⟩⟩
 case rest =>
  clear HC2
  try clear c1
  try clear c2
  try clear p2
  try clear c3
  try clear c6
  try clear c8
  try clear c8b0
  try clear c9
  try clear c9b0
  try clear c10
  try clear c10b0
  try clear c11
  try clear c11b0
  try clear c12
  try clear c13
  try clear c15
  try clear c17
  try clear c19
  try clear c21
  try clear c23
  try clear c25
  try clear c27
  try clear c29
  try clear c31
  try clear c33
  try clear c35
  try clear c37
  try clear hcz22_0
  try clear hcz22_1
  try clear hcz22_10
  try clear hcz22_11
  try clear hcz22_12
  try clear hcz22_13
  try clear hcz22_14
  try clear hcz22_15
  try clear hcz22_2
  try clear hcz22_3
  try clear hcz22_4
  try clear hcz22_5
  try clear hcz22_6
  try clear hcz22_7
  try clear hcz22_8
  try clear hcz22_9
  try clear hcz24_0
  try clear hcz24_1
  try clear hcz24_10
  try clear hcz24_11
  try clear hcz24_12
  try clear hcz24_13
  try clear hcz24_14
  try clear hcz24_15
  try clear hcz24_2
  try clear hcz24_3
  try clear hcz24_4
  try clear hcz24_5
  try clear hcz24_6
  try clear hcz24_7
  try clear hcz24_8
  try clear hcz24_9
  try clear hcz26_0
  try clear hcz26_1
  try clear hcz26_10
  try clear hcz26_11
  try clear hcz26_12
  try clear hcz26_13
  try clear hcz26_14
  try clear hcz26_15
  try clear hcz26_2
  try clear hcz26_3
  try clear hcz26_4
  try clear hcz26_5
  try clear hcz26_6
  try clear hcz26_7
  try clear hcz26_8
  try clear hcz26_9
  try clear hcz28_0
  try clear hcz28_1
  try clear hcz28_10
  try clear hcz28_11
  try clear hcz28_12
  try clear hcz28_13
  try clear hcz28_14
  try clear hcz28_15
  try clear hcz28_2
  try clear hcz28_3
  try clear hcz28_4
  try clear hcz28_5
  try clear hcz28_6
  try clear hcz28_7
  try clear hcz28_8
  try clear hcz28_9
  try clear hcz30_0
  try clear hcz30_1
  try clear hcz30_10
  try clear hcz30_11
  try clear hcz30_12
  try clear hcz30_13
  try clear hcz30_14
  try clear hcz30_15
  try clear hcz30_2
  try clear hcz30_3
  try clear hcz30_4
  try clear hcz30_5
  try clear hcz30_6
  try clear hcz30_7
  try clear hcz30_8
  try clear hcz30_9
  try clear hcz32_0
  try clear hcz32_1
  try clear hcz32_10
  try clear hcz32_11
  try clear hcz32_12
  try clear hcz32_13
  try clear hcz32_14
  try clear hcz32_15
  try clear hcz32_2
  try clear hcz32_3
  try clear hcz32_4
  try clear hcz32_5
  try clear hcz32_6
  try clear hcz32_7
  try clear hcz32_8
  try clear hcz32_9
  try clear hcz34_0
  try clear hcz34_1
  try clear hcz34_10
  try clear hcz34_11
  try clear hcz34_12
  try clear hcz34_13
  try clear hcz34_14
  try clear hcz34_15
  try clear hcz34_2
  try clear hcz34_3
  try clear hcz34_4
  try clear hcz34_5
  try clear hcz34_6
  try clear hcz34_7
  try clear hcz34_8
  try clear hcz34_9
  try clear hcz36_0
  try clear hcz36_1
  try clear hcz36_10
  try clear hcz36_11
  try clear hcz36_12
  try clear hcz36_13
  try clear hcz36_14
  try clear hcz36_15
  try clear hcz36_2
  try clear hcz36_3
  try clear hcz36_4
  try clear hcz36_5
  try clear hcz36_6
  try clear hcz36_7
  try clear hcz36_8
  try clear hcz36_9
  try clear hcz38_0
  try clear hcz38_1
  try clear hcz38_10
  try clear hcz38_11
  try clear hcz38_12
  try clear hcz38_13
  try clear hcz38_14
  try clear hcz38_15
  try clear hcz38_2
  try clear hcz38_3
  try clear hcz38_4
  try clear hcz38_5
  try clear hcz38_6
  try clear hcz38_7
  try clear hcz38_8
  try clear hcz38_9
  try clear hcz4_0
  try clear hcz4_1
  try clear hcz4_10
  try clear hcz4_11
  try clear hcz4_12
  try clear hcz4_13
  try clear hcz4_14
  try clear hcz4_15
  try clear hcz4_2
  try clear hcz4_3
  try clear hcz4_4
  try clear hcz4_5
  try clear hcz4_6
  try clear hcz4_7
  try clear hcz4_8
  try clear hcz4_9
  try clear hcz7_0
  try clear hcz7_1
  try clear hcz7_10
  try clear hcz7_11
  try clear hcz7_12
  try clear hcz7_13
  try clear hcz7_14
  try clear hcz7_15
  try clear hcz7_2
  try clear hcz7_3
  try clear hcz7_4
  try clear hcz7_5
  try clear hcz7_6
  try clear hcz7_7
  try clear hcz7_8
  try clear hcz7_9
  try clear hfz22_0
  try clear hfz22_1
  try clear hfz22_10
  try clear hfz22_11
  try clear hfz22_12
  try clear hfz22_13
  try clear hfz22_14
  try clear hfz22_15
  try clear hfz22_2
  try clear hfz22_3
  try clear hfz22_4
  try clear hfz22_5
  try clear hfz22_6
  try clear hfz22_7
  try clear hfz22_8
  try clear hfz22_9
  try clear hfz24_0
  try clear hfz24_1
  try clear hfz24_10
  try clear hfz24_11
  try clear hfz24_12
  try clear hfz24_13
  try clear hfz24_14
  try clear hfz24_15
  try clear hfz24_2
  try clear hfz24_3
  try clear hfz24_4
  try clear hfz24_5
  try clear hfz24_6
  try clear hfz24_7
  try clear hfz24_8
  try clear hfz24_9
  try clear hfz26_0
  try clear hfz26_1
  try clear hfz26_10
  try clear hfz26_11
  try clear hfz26_12
  try clear hfz26_13
  try clear hfz26_14
  try clear hfz26_15
  try clear hfz26_2
  try clear hfz26_3
  try clear hfz26_4
  try clear hfz26_5
  try clear hfz26_6
  try clear hfz26_7
  try clear hfz26_8
  try clear hfz26_9
  try clear hfz28_0
  try clear hfz28_1
  try clear hfz28_10
  try clear hfz28_11
  try clear hfz28_12
  try clear hfz28_13
  try clear hfz28_14
  try clear hfz28_15
  try clear hfz28_2
  try clear hfz28_3
  try clear hfz28_4
  try clear hfz28_5
  try clear hfz28_6
  try clear hfz28_7
  try clear hfz28_8
  try clear hfz28_9
  try clear hfz30_0
  try clear hfz30_1
  try clear hfz30_10
  try clear hfz30_11
  try clear hfz30_12
  try clear hfz30_13
  try clear hfz30_14
  try clear hfz30_15
  try clear hfz30_2
  try clear hfz30_3
  try clear hfz30_4
  try clear hfz30_5
  try clear hfz30_6
  try clear hfz30_7
  try clear hfz30_8
  try clear hfz30_9
  try clear hfz32_0
  try clear hfz32_1
  try clear hfz32_10
  try clear hfz32_11
  try clear hfz32_12
  try clear hfz32_13
  try clear hfz32_14
  try clear hfz32_15
  try clear hfz32_2
  try clear hfz32_3
  try clear hfz32_4
  try clear hfz32_5
  try clear hfz32_6
  try clear hfz32_7
  try clear hfz32_8
  try clear hfz32_9
  try clear hfz34_0
  try clear hfz34_1
  try clear hfz34_10
  try clear hfz34_11
  try clear hfz34_12
  try clear hfz34_13
  try clear hfz34_14
  try clear hfz34_15
  try clear hfz34_2
  try clear hfz34_3
  try clear hfz34_4
  try clear hfz34_5
  try clear hfz34_6
  try clear hfz34_7
  try clear hfz34_8
  try clear hfz34_9
  try clear hfz36_0
  try clear hfz36_1
  try clear hfz36_10
  try clear hfz36_11
  try clear hfz36_12
  try clear hfz36_13
  try clear hfz36_14
  try clear hfz36_15
  try clear hfz36_2
  try clear hfz36_3
  try clear hfz36_4
  try clear hfz36_5
  try clear hfz36_6
  try clear hfz36_7
  try clear hfz36_8
  try clear hfz36_9
  try clear hfz38_0
  try clear hfz38_1
  try clear hfz38_10
  try clear hfz38_11
  try clear hfz38_12
  try clear hfz38_13
  try clear hfz38_14
  try clear hfz38_15
  try clear hfz38_2
  try clear hfz38_3
  try clear hfz38_4
  try clear hfz38_5
  try clear hfz38_6
  try clear hfz38_7
  try clear hfz38_8
  try clear hfz38_9
  try clear hfz4_0
  try clear hfz4_1
  try clear hfz4_10
  try clear hfz4_11
  try clear hfz4_12
  try clear hfz4_13
  try clear hfz4_14
  try clear hfz4_15
  try clear hfz4_2
  try clear hfz4_3
  try clear hfz4_4
  try clear hfz4_5
  try clear hfz4_6
  try clear hfz4_7
  try clear hfz4_8
  try clear hfz4_9
  try clear hfz7_0
  try clear hfz7_1
  try clear hfz7_10
  try clear hfz7_11
  try clear hfz7_12
  try clear hfz7_13
  try clear hfz7_14
  try clear hfz7_15
  try clear hfz7_2
  try clear hfz7_3
  try clear hfz7_4
  try clear hfz7_5
  try clear hfz7_6
  try clear hfz7_7
  try clear hfz7_8
  try clear hfz7_9
  obtain ⟨kq, x4_1, rfl, HA, HJ1, BK130, BK131, HB⟩ := hcut
  cases kq with
  | zero => exact absurd HA.out (by simp [gangwayref09_Check.j0])
  | succ kj1 =>
   have H := HA.out
   clear HA
   simp only [gangwayref09_Check.j0] at H
   have HC39 := Aside0.mk H
   clear H
   go_upto_region 3 with (fail)
   go_cut [99] (fun v99 wc => ∃ (kq : Nat) (x99_38 : Bool), v99 = .bool x99_38 ∧ Aside0 (gangwayref09_Check.j1 kq x99_38 = some r) ∧ Aside0 (kq ≤ kj1) ∧ Aside0 (wc.heap[gb130]? = some (.cells #[.int .i64 a0_0, .bool a0_1, .bool a0_2, .bool a0_3, .bool a0_4, .bool a0_5, .bool a0_6, .int .i64 a0_7, .int .u64 a0_8, .int .i64 a0_9, .int .u64 a0_10, .int .i64 a0_11, .int .i64 a0_12, .int .i64 a0_13, .int .i64 a0_14, .int .i64 a0_15] 24 (0, 0))) ∧ Aside0 (wc.heap[gb131]? = some (.cells #[.int .i64 a0_0, .bool a0_1, .bool false, .bool false, .bool false, .bool false, .bool a0_6, .int .i64 0, .int .u64 a0_8, .int .i64 a0_9, .int .u64 a0_10, .int .i64 a0_11, .int .i64 a0_12, .int .i64 a0_13, .int .i64 a0_14, .int .i64 a0_15] 24 (0, 0))) ∧ Aside0 (Below w.heap.size w wc))
   case first =>
    have H := HC39.out
    clear HC39
    by_cases c40 : a0_0 = 128
    ·rw [if_pos c40] at H
     have c40b0 : (a0_0 == 128) = true := beq_iff_eq.mpr c40
     have c40b1 : (a0_0 != 128) = false := bne_eq_false_iff_eq.mpr c40
     clear c40
     (first | rw [c40b0] | (simp only [i64_w, i32_w]; rw [c40b0]) | skip)
     by_cases c41 : (a0_0 == 128 && (!a0_1 && (!a0_2 && (!a0_3 && (!a0_4 && (!a0_5 && (!a0_6 && (a0_7 == 0 && (a0_8 == 0 && (a0_9 == 0 && (a0_10 == 0 && (a0_11 == 0 && (a0_12 == 0 && (a0_13 == 0 && (a0_14 == 0 && (a0_15 == 0)))))))))))))))) = true
     ·rw [if_pos c41] at H
      have c41b0 : (a0_0 == 128 && (!a0_1 && (!a0_2 && (!a0_3 && (!a0_4 && (!a0_5 && (!a0_6 && (a0_7 == 0 && (a0_8 == 0 && (a0_9 == 0 && (a0_10 == 0 && (a0_11 == 0 && (a0_12 == 0 && (a0_13 == 0 && (a0_14 == 0 && (a0_15 == 0)))))))))))))))) = true := c41
      clear c41
      have H' := Aside0.mk H
      clear H
      have hnb42 := NB130_131.out
      have hnc42 := NB131_130.out
      obtain ⟨hcz43_0, hcz43_1, hcz43_2, hcz43_3, hcz43_4, hcz43_5, hcz43_6, hcz43_7, hcz43_8, hcz43_9, hcz43_10, hcz43_11, hcz43_12, hcz43_13, hcz43_14, hcz43_15⟩ := cells16 BK130.out
      obtain ⟨hfz43_0, hfz43_1, hfz43_2, hfz43_3, hfz43_4, hfz43_5, hfz43_6, hfz43_7, hfz43_8, hfz43_9, hfz43_10, hfz43_11, hfz43_12, hfz43_13, hfz43_14, hfz43_15⟩ := frozen16 BK130.out
      go_wp2_with (first | ((with_reducible refine gate_st (ty := 24) rfl ?_); (try (with_reducible refine gate_gd rfl ?_; refine gate_guard (by first | rfl | exact wanted_on rfl rfl rfl (by first | rfl | (simp [*]; done) | fail) | fail) ?_; dsimp only)); refine storeC16 rfl rfl rfl rfl rfl (by repeat (first | (with_reducible apply blk_far; case hp => assumption) | (with_reducible apply blk_set) | (with_reducible refine blk_drewN ?_ _) | (with_reducible refine blk_drew ?_) | (with_reducible refine blk_alloc ?_ _) | (first | with_reducible exact BK130.out | with_reducible exact BK131.out))) (by first | (simp only [List.setIfInBounds_toArray, List.set_cons_zero, List.set_cons_succ] <;> rfl) | rfl) (by kernel_rfl) rfl ?_) | ((with_reducible refine gate_ld (ty := 24) rfl ?_); (try (with_reducible refine gate_gd rfl ?_; refine gate_guard (by first | rfl | exact wanted_on rfl rfl rfl (by first | rfl | (simp [*]; done) | fail) | fail) ?_; dsimp only)); refine load_st rfl rfl rfl (by repeat (first | (with_reducible apply blk_far; case hp => assumption) | (with_reducible apply blk_set) | (with_reducible refine blk_drewN ?_ _) | (with_reducible refine blk_drew ?_) | (with_reducible refine blk_alloc ?_ _) | (first | with_reducible exact BK130.out | with_reducible exact BK131.out))) (by first | (simp only [List.setIfInBounds_toArray, List.set_cons_zero, List.set_cons_succ] <;> rfl) | rfl) Tryd.underlying24 rfl (by kernel_rfl) ?_; (try simp only [Act.put, List.setIfInBounds_toArray, List.set_cons_zero, List.set_cons_succ])) | ((with_reducible refine gate_eql (ty := 24) rfl ?_); (try (with_reducible refine gate_gd rfl ?_; refine gate_guard (by first | rfl | exact wanted_on rfl rfl rfl (by first | rfl | (simp [*]; done) | fail) | fail) ?_; dsimp only)); refine eql24 rfl rfl rfl rfl true (by first | exact c41b0 | (simpa using c41b0) | exact c46b0 | (simpa using c46b0) | exact c69b0 | (simpa using c69b0)) ?_; (try simp only [Act.put, List.setIfInBounds_toArray, List.set_cons_zero, List.set_cons_succ])) | ((with_reducible refine gate_eql (ty := 24) rfl ?_); (try (with_reducible refine gate_gd rfl ?_; refine gate_guard (by first | rfl | exact wanted_on rfl rfl rfl (by first | rfl | (simp [*]; done) | fail) | fail) ?_; dsimp only)); refine eql24 rfl rfl rfl rfl false (by first | exact c41b0 | (simpa using c41b0) | exact c46b0 | (simpa using c46b0) | exact c69b0 | (simpa using c69b0)) ?_; (try simp only [Act.put, List.setIfInBounds_toArray, List.set_cons_zero, List.set_cons_succ])) | go_in)
      go_meet
      case rel => exact ⟨_, (true), (by first | rfl | (simp; done) | (simp [*]; done)), H', ⟨by have := HJ1.out; first | omega | exact Nat.le_refl _⟩, ⟨by (with_reducible repeat (first | refine blk_drewN ?_ _ | refine blk_drew ?_ | refine blk_alloc ?_ _)); exact BK130.out⟩, ⟨by (with_reducible repeat (first | refine blk_drewN ?_ _ | refine blk_drew ?_ | refine blk_alloc ?_ _)); exact BK131.out⟩, ⟨by repeat (first | (with_reducible first | exact HB.out | apply below_alloc | apply pw_below_drewN | apply below_drew1 | refine below_set ?_ GE130.out | refine below_set ?_ GE131.out) | exact HB.out)⟩⟩
     ·rw [if_neg c41] at H
      have c41b0 : (a0_0 == 128 && (!a0_1 && (!a0_2 && (!a0_3 && (!a0_4 && (!a0_5 && (!a0_6 && (a0_7 == 0 && (a0_8 == 0 && (a0_9 == 0 && (a0_10 == 0 && (a0_11 == 0 && (a0_12 == 0 && (a0_13 == 0 && (a0_14 == 0 && (a0_15 == 0)))))))))))))))) = false := by simpa using c41
      (try (have c41b3 : ¬ (a0_0 = 128 && (!a0_1 && (!a0_2 && (!a0_3 && (!a0_4 && (!a0_5 && (!a0_6 && (a0_7 == 0 && (a0_8 == 0 && (a0_9 == 0 && (a0_10 == 0 && (a0_11 == 0 && (a0_12 == 0 && (a0_13 == 0 && (a0_14 == 0 && (a0_15 == 0)))))))))))))))) := by simpa using c41))
      clear c41
      by_cases c44 : a0_0 = 0
      ·rw [if_pos c44] at H
       have c44b0 : (a0_0 == 0) = true := beq_iff_eq.mpr c44
       have c44b1 : (a0_0 != 0) = false := bne_eq_false_iff_eq.mpr c44
       clear c44
       by_cases c45 : x4_1 = true
       ·subst c45
        have H1 : (if (a0_0 == a0_0 && (a0_1 == a0_1 && (a0_2 == false && (a0_3 == false && (a0_4 == false && (a0_5 == false && (a0_6 == a0_6 && (a0_7 == 0 && (a0_8 == a0_8 && (a0_9 == a0_9 && (a0_10 == a0_10 && (a0_11 == a0_11 && (a0_12 == a0_12 && (a0_13 == a0_13 && (a0_14 == a0_14 && (a0_15 == a0_15)))))))))))))))) = true then (gangwayref09_Check.j1 kj1 true) else (if a0_0 = 2 then (gangwayref09_Check.j1 kj1 true) else (gangwayref09_Check.j1 kj1 false))) = some r := by rw [if_pos rfl] at H; exact H
        clear H
        have H := H1
        clear H1
        by_cases c46 : (a0_0 == a0_0 && (a0_1 == a0_1 && (a0_2 == false && (a0_3 == false && (a0_4 == false && (a0_5 == false && (a0_6 == a0_6 && (a0_7 == 0 && (a0_8 == a0_8 && (a0_9 == a0_9 && (a0_10 == a0_10 && (a0_11 == a0_11 && (a0_12 == a0_12 && (a0_13 == a0_13 && (a0_14 == a0_14 && (a0_15 == a0_15)))))))))))))))) = true
        ·rw [if_pos c46] at H
         have c46b0 : (a0_0 == a0_0 && (a0_1 == a0_1 && (a0_2 == false && (a0_3 == false && (a0_4 == false && (a0_5 == false && (a0_6 == a0_6 && (a0_7 == 0 && (a0_8 == a0_8 && (a0_9 == a0_9 && (a0_10 == a0_10 && (a0_11 == a0_11 && (a0_12 == a0_12 && (a0_13 == a0_13 && (a0_14 == a0_14 && (a0_15 == a0_15)))))))))))))))) = true := c46
         clear c46
         have H' := Aside0.mk H
         clear H
         have hnb47 := NB130_131.out
         have hnc47 := NB131_130.out
         obtain ⟨hcz48_0, hcz48_1, hcz48_2, hcz48_3, hcz48_4, hcz48_5, hcz48_6, hcz48_7, hcz48_8, hcz48_9, hcz48_10, hcz48_11, hcz48_12, hcz48_13, hcz48_14, hcz48_15⟩ := cells16 BK130.out
         obtain ⟨hfz48_0, hfz48_1, hfz48_2, hfz48_3, hfz48_4, hfz48_5, hfz48_6, hfz48_7, hfz48_8, hfz48_9, hfz48_10, hfz48_11, hfz48_12, hfz48_13, hfz48_14, hfz48_15⟩ := frozen16 BK130.out
         obtain ⟨hcz49_0, hcz49_1, hcz49_2, hcz49_3, hcz49_4, hcz49_5, hcz49_6, hcz49_7, hcz49_8, hcz49_9, hcz49_10, hcz49_11, hcz49_12, hcz49_13, hcz49_14, hcz49_15⟩ := cells16 BK131.out
         obtain ⟨hfz49_0, hfz49_1, hfz49_2, hfz49_3, hfz49_4, hfz49_5, hfz49_6, hfz49_7, hfz49_8, hfz49_9, hfz49_10, hfz49_11, hfz49_12, hfz49_13, hfz49_14, hfz49_15⟩ := frozen16 BK131.out
         go_wp2_with (first | ((with_reducible refine gate_st (ty := 24) rfl ?_); (try (with_reducible refine gate_gd rfl ?_; refine gate_guard (by first | rfl | exact wanted_on rfl rfl rfl (by first | rfl | (simp [*]; done) | fail) | fail) ?_; dsimp only)); refine storeC16 rfl rfl rfl rfl rfl (by repeat (first | (with_reducible apply blk_far; case hp => assumption) | (with_reducible apply blk_set) | (with_reducible refine blk_drewN ?_ _) | (with_reducible refine blk_drew ?_) | (with_reducible refine blk_alloc ?_ _) | (first | with_reducible exact BK130.out | with_reducible exact BK131.out))) (by first | (simp only [List.setIfInBounds_toArray, List.set_cons_zero, List.set_cons_succ] <;> rfl) | rfl) (by kernel_rfl) rfl ?_) | ((with_reducible refine gate_ld (ty := 24) rfl ?_); (try (with_reducible refine gate_gd rfl ?_; refine gate_guard (by first | rfl | exact wanted_on rfl rfl rfl (by first | rfl | (simp [*]; done) | fail) | fail) ?_; dsimp only)); refine load_st rfl rfl rfl (by repeat (first | (with_reducible apply blk_far; case hp => assumption) | (with_reducible apply blk_set) | (with_reducible refine blk_drewN ?_ _) | (with_reducible refine blk_drew ?_) | (with_reducible refine blk_alloc ?_ _) | (first | with_reducible exact BK130.out | with_reducible exact BK131.out))) (by first | (simp only [List.setIfInBounds_toArray, List.set_cons_zero, List.set_cons_succ] <;> rfl) | rfl) Tryd.underlying24 rfl (by kernel_rfl) ?_; (try simp only [Act.put, List.setIfInBounds_toArray, List.set_cons_zero, List.set_cons_succ])) | ((with_reducible refine gate_eql (ty := 24) rfl ?_); (try (with_reducible refine gate_gd rfl ?_; refine gate_guard (by first | rfl | exact wanted_on rfl rfl rfl (by first | rfl | (simp [*]; done) | fail) | fail) ?_; dsimp only)); refine eql24 rfl rfl rfl rfl true (by first | exact c41b0 | (simpa using c41b0) | exact c46b0 | (simpa using c46b0) | exact c69b0 | (simpa using c69b0)) ?_; (try simp only [Act.put, List.setIfInBounds_toArray, List.set_cons_zero, List.set_cons_succ])) | ((with_reducible refine gate_eql (ty := 24) rfl ?_); (try (with_reducible refine gate_gd rfl ?_; refine gate_guard (by first | rfl | exact wanted_on rfl rfl rfl (by first | rfl | (simp [*]; done) | fail) | fail) ?_; dsimp only)); refine eql24 rfl rfl rfl rfl false (by first | exact c41b0 | (simpa using c41b0) | exact c46b0 | (simpa using c46b0) | exact c69b0 | (simpa using c69b0)) ?_; (try simp only [Act.put, List.setIfInBounds_toArray, List.set_cons_zero, List.set_cons_succ])) | go_in)
         go_meet
         case rel => exact ⟨_, (true), (by first | rfl | (simp; done) | (simp [*]; done)), H', ⟨by have := HJ1.out; first | omega | exact Nat.le_refl _⟩, ⟨by (with_reducible repeat (first | refine blk_drewN ?_ _ | refine blk_drew ?_ | refine blk_alloc ?_ _)); exact BK130.out⟩, ⟨by (with_reducible repeat (first | refine blk_drewN ?_ _ | refine blk_drew ?_ | refine blk_alloc ?_ _)); exact BK131.out⟩, ⟨by repeat (first | (with_reducible first | exact HB.out | apply below_alloc | apply pw_below_drewN | apply below_drew1 | refine below_set ?_ GE130.out | refine below_set ?_ GE131.out) | exact HB.out)⟩⟩
        ·rw [if_neg c46] at H
         have c46b0 : (a0_0 == a0_0 && (a0_1 == a0_1 && (a0_2 == false && (a0_3 == false && (a0_4 == false && (a0_5 == false && (a0_6 == a0_6 && (a0_7 == 0 && (a0_8 == a0_8 && (a0_9 == a0_9 && (a0_10 == a0_10 && (a0_11 == a0_11 && (a0_12 == a0_12 && (a0_13 == a0_13 && (a0_14 == a0_14 && (a0_15 == a0_15)))))))))))))))) = false := by simpa using c46
         (try (have c46b3 : ¬ (a0_0 = a0_0 && (a0_1 == a0_1 && (a0_2 == false && (a0_3 == false && (a0_4 == false && (a0_5 == false && (a0_6 == a0_6 && (a0_7 == 0 && (a0_8 == a0_8 && (a0_9 == a0_9 && (a0_10 == a0_10 && (a0_11 == a0_11 && (a0_12 == a0_12 && (a0_13 == a0_13 && (a0_14 == a0_14 && (a0_15 == a0_15)))))))))))))))) := by simpa using c46))
         clear c46
         by_cases c50 : a0_0 = 2
         ·rw [if_pos c50] at H
          have c50b0 : (a0_0 == 2) = true := beq_iff_eq.mpr c50
          have c50b1 : (a0_0 != 2) = false := bne_eq_false_iff_eq.mpr c50
          clear c50
          have H' := Aside0.mk H
          clear H
          have hnb51 := NB130_131.out
          have hnc51 := NB131_130.out
          obtain ⟨hcz52_0, hcz52_1, hcz52_2, hcz52_3, hcz52_4, hcz52_5, hcz52_6, hcz52_7, hcz52_8, hcz52_9, hcz52_10, hcz52_11, hcz52_12, hcz52_13, hcz52_14, hcz52_15⟩ := cells16 BK130.out
          obtain ⟨hfz52_0, hfz52_1, hfz52_2, hfz52_3, hfz52_4, hfz52_5, hfz52_6, hfz52_7, hfz52_8, hfz52_9, hfz52_10, hfz52_11, hfz52_12, hfz52_13, hfz52_14, hfz52_15⟩ := frozen16 BK130.out
          obtain ⟨hcz53_0, hcz53_1, hcz53_2, hcz53_3, hcz53_4, hcz53_5, hcz53_6, hcz53_7, hcz53_8, hcz53_9, hcz53_10, hcz53_11, hcz53_12, hcz53_13, hcz53_14, hcz53_15⟩ := cells16 BK131.out
          obtain ⟨hfz53_0, hfz53_1, hfz53_2, hfz53_3, hfz53_4, hfz53_5, hfz53_6, hfz53_7, hfz53_8, hfz53_9, hfz53_10, hfz53_11, hfz53_12, hfz53_13, hfz53_14, hfz53_15⟩ := frozen16 BK131.out
          go_wp2_with (first | ((with_reducible refine gate_st (ty := 24) rfl ?_); (try (with_reducible refine gate_gd rfl ?_; refine gate_guard (by first | rfl | exact wanted_on rfl rfl rfl (by first | rfl | (simp [*]; done) | fail) | fail) ?_; dsimp only)); refine storeC16 rfl rfl rfl rfl rfl (by repeat (first | (with_reducible apply blk_far; case hp => assumption) | (with_reducible apply blk_set) | (with_reducible refine blk_drewN ?_ _) | (with_reducible refine blk_drew ?_) | (with_reducible refine blk_alloc ?_ _) | (first | with_reducible exact BK130.out | with_reducible exact BK131.out))) (by first | (simp only [List.setIfInBounds_toArray, List.set_cons_zero, List.set_cons_succ] <;> rfl) | rfl) (by kernel_rfl) rfl ?_) | ((with_reducible refine gate_ld (ty := 24) rfl ?_); (try (with_reducible refine gate_gd rfl ?_; refine gate_guard (by first | rfl | exact wanted_on rfl rfl rfl (by first | rfl | (simp [*]; done) | fail) | fail) ?_; dsimp only)); refine load_st rfl rfl rfl (by repeat (first | (with_reducible apply blk_far; case hp => assumption) | (with_reducible apply blk_set) | (with_reducible refine blk_drewN ?_ _) | (with_reducible refine blk_drew ?_) | (with_reducible refine blk_alloc ?_ _) | (first | with_reducible exact BK130.out | with_reducible exact BK131.out))) (by first | (simp only [List.setIfInBounds_toArray, List.set_cons_zero, List.set_cons_succ] <;> rfl) | rfl) Tryd.underlying24 rfl (by kernel_rfl) ?_; (try simp only [Act.put, List.setIfInBounds_toArray, List.set_cons_zero, List.set_cons_succ])) | ((with_reducible refine gate_eql (ty := 24) rfl ?_); (try (with_reducible refine gate_gd rfl ?_; refine gate_guard (by first | rfl | exact wanted_on rfl rfl rfl (by first | rfl | (simp [*]; done) | fail) | fail) ?_; dsimp only)); refine eql24 rfl rfl rfl rfl true (by first | exact c41b0 | (simpa using c41b0) | exact c46b0 | (simpa using c46b0) | exact c69b0 | (simpa using c69b0)) ?_; (try simp only [Act.put, List.setIfInBounds_toArray, List.set_cons_zero, List.set_cons_succ])) | ((with_reducible refine gate_eql (ty := 24) rfl ?_); (try (with_reducible refine gate_gd rfl ?_; refine gate_guard (by first | rfl | exact wanted_on rfl rfl rfl (by first | rfl | (simp [*]; done) | fail) | fail) ?_; dsimp only)); refine eql24 rfl rfl rfl rfl false (by first | exact c41b0 | (simpa using c41b0) | exact c46b0 | (simpa using c46b0) | exact c69b0 | (simpa using c69b0)) ?_; (try simp only [Act.put, List.setIfInBounds_toArray, List.set_cons_zero, List.set_cons_succ])) | go_in)
          go_meet
          case rel => exact ⟨_, (true), (by first | rfl | (simp; done) | (simp [*]; done)), H', ⟨by have := HJ1.out; first | omega | exact Nat.le_refl _⟩, ⟨by (with_reducible repeat (first | refine blk_drewN ?_ _ | refine blk_drew ?_ | refine blk_alloc ?_ _)); exact BK130.out⟩, ⟨by (with_reducible repeat (first | refine blk_drewN ?_ _ | refine blk_drew ?_ | refine blk_alloc ?_ _)); exact BK131.out⟩, ⟨by repeat (first | (with_reducible first | exact HB.out | apply below_alloc | apply pw_below_drewN | apply below_drew1 | refine below_set ?_ GE130.out | refine below_set ?_ GE131.out) | exact HB.out)⟩⟩
         ·rw [if_neg c50] at H
          have c50b0 : (a0_0 == 2) = false := beq_eq_false_iff_ne.mpr c50
          have c50b1 : (a0_0 != 2) = true := bne_iff_ne.mpr c50
          have H' := Aside0.mk H
          clear H
          have hnb54 := NB130_131.out
          have hnc54 := NB131_130.out
          obtain ⟨hcz55_0, hcz55_1, hcz55_2, hcz55_3, hcz55_4, hcz55_5, hcz55_6, hcz55_7, hcz55_8, hcz55_9, hcz55_10, hcz55_11, hcz55_12, hcz55_13, hcz55_14, hcz55_15⟩ := cells16 BK130.out
          obtain ⟨hfz55_0, hfz55_1, hfz55_2, hfz55_3, hfz55_4, hfz55_5, hfz55_6, hfz55_7, hfz55_8, hfz55_9, hfz55_10, hfz55_11, hfz55_12, hfz55_13, hfz55_14, hfz55_15⟩ := frozen16 BK130.out
          obtain ⟨hcz56_0, hcz56_1, hcz56_2, hcz56_3, hcz56_4, hcz56_5, hcz56_6, hcz56_7, hcz56_8, hcz56_9, hcz56_10, hcz56_11, hcz56_12, hcz56_13, hcz56_14, hcz56_15⟩ := cells16 BK131.out
          obtain ⟨hfz56_0, hfz56_1, hfz56_2, hfz56_3, hfz56_4, hfz56_5, hfz56_6, hfz56_7, hfz56_8, hfz56_9, hfz56_10, hfz56_11, hfz56_12, hfz56_13, hfz56_14, hfz56_15⟩ := frozen16 BK131.out
          go_wp2_with (first | ((with_reducible refine gate_st (ty := 24) rfl ?_); (try (with_reducible refine gate_gd rfl ?_; refine gate_guard (by first | rfl | exact wanted_on rfl rfl rfl (by first | rfl | (simp [*]; done) | fail) | fail) ?_; dsimp only)); refine storeC16 rfl rfl rfl rfl rfl (by repeat (first | (with_reducible apply blk_far; case hp => assumption) | (with_reducible apply blk_set) | (with_reducible refine blk_drewN ?_ _) | (with_reducible refine blk_drew ?_) | (with_reducible refine blk_alloc ?_ _) | (first | with_reducible exact BK130.out | with_reducible exact BK131.out))) (by first | (simp only [List.setIfInBounds_toArray, List.set_cons_zero, List.set_cons_succ] <;> rfl) | rfl) (by kernel_rfl) rfl ?_) | ((with_reducible refine gate_ld (ty := 24) rfl ?_); (try (with_reducible refine gate_gd rfl ?_; refine gate_guard (by first | rfl | exact wanted_on rfl rfl rfl (by first | rfl | (simp [*]; done) | fail) | fail) ?_; dsimp only)); refine load_st rfl rfl rfl (by repeat (first | (with_reducible apply blk_far; case hp => assumption) | (with_reducible apply blk_set) | (with_reducible refine blk_drewN ?_ _) | (with_reducible refine blk_drew ?_) | (with_reducible refine blk_alloc ?_ _) | (first | with_reducible exact BK130.out | with_reducible exact BK131.out))) (by first | (simp only [List.setIfInBounds_toArray, List.set_cons_zero, List.set_cons_succ] <;> rfl) | rfl) Tryd.underlying24 rfl (by kernel_rfl) ?_; (try simp only [Act.put, List.setIfInBounds_toArray, List.set_cons_zero, List.set_cons_succ])) | ((with_reducible refine gate_eql (ty := 24) rfl ?_); (try (with_reducible refine gate_gd rfl ?_; refine gate_guard (by first | rfl | exact wanted_on rfl rfl rfl (by first | rfl | (simp [*]; done) | fail) | fail) ?_; dsimp only)); refine eql24 rfl rfl rfl rfl true (by first | exact c41b0 | (simpa using c41b0) | exact c46b0 | (simpa using c46b0) | exact c69b0 | (simpa using c69b0)) ?_; (try simp only [Act.put, List.setIfInBounds_toArray, List.set_cons_zero, List.set_cons_succ])) | ((with_reducible refine gate_eql (ty := 24) rfl ?_); (try (with_reducible refine gate_gd rfl ?_; refine gate_guard (by first | rfl | exact wanted_on rfl rfl rfl (by first | rfl | (simp [*]; done) | fail) | fail) ?_; dsimp only)); refine eql24 rfl rfl rfl rfl false (by first | exact c41b0 | (simpa using c41b0) | exact c46b0 | (simpa using c46b0) | exact c69b0 | (simpa using c69b0)) ?_; (try simp only [Act.put, List.setIfInBounds_toArray, List.set_cons_zero, List.set_cons_succ])) | go_in)
          go_meet
          case rel => exact ⟨_, (false), (by first | rfl | (simp; done) | (simp [*]; done)), H', ⟨by have := HJ1.out; first | omega | exact Nat.le_refl _⟩, ⟨by (with_reducible repeat (first | refine blk_drewN ?_ _ | refine blk_drew ?_ | refine blk_alloc ?_ _)); exact BK130.out⟩, ⟨by (with_reducible repeat (first | refine blk_drewN ?_ _ | refine blk_drew ?_ | refine blk_alloc ?_ _)); exact BK131.out⟩, ⟨by repeat (first | (with_reducible first | exact HB.out | apply below_alloc | apply pw_below_drewN | apply below_drew1 | refine below_set ?_ GE130.out | refine below_set ?_ GE131.out) | exact HB.out)⟩⟩
       ·replace c45 := Bool.eq_false_iff.mpr c45
        subst c45
        have H1 : (if a0_0 = 2 then (gangwayref09_Check.j1 kj1 false) else (gangwayref09_Check.j1 kj1 false)) = some r := by rw [if_neg (show ¬ (false = true) by decide)] at H; exact H
        clear H
        have H := H1
        clear H1
        by_cases c57 : a0_0 = 2
        ·rw [if_pos c57] at H
         have c57b0 : (a0_0 == 2) = true := beq_iff_eq.mpr c57
         have c57b1 : (a0_0 != 2) = false := bne_eq_false_iff_eq.mpr c57
         clear c57
         have H' := Aside0.mk H
         clear H
         have hnb58 := NB130_131.out
         have hnc58 := NB131_130.out
         obtain ⟨hcz59_0, hcz59_1, hcz59_2, hcz59_3, hcz59_4, hcz59_5, hcz59_6, hcz59_7, hcz59_8, hcz59_9, hcz59_10, hcz59_11, hcz59_12, hcz59_13, hcz59_14, hcz59_15⟩ := cells16 BK130.out
         obtain ⟨hfz59_0, hfz59_1, hfz59_2, hfz59_3, hfz59_4, hfz59_5, hfz59_6, hfz59_7, hfz59_8, hfz59_9, hfz59_10, hfz59_11, hfz59_12, hfz59_13, hfz59_14, hfz59_15⟩ := frozen16 BK130.out
         go_wp2_with (first | ((with_reducible refine gate_st (ty := 24) rfl ?_); (try (with_reducible refine gate_gd rfl ?_; refine gate_guard (by first | rfl | exact wanted_on rfl rfl rfl (by first | rfl | (simp [*]; done) | fail) | fail) ?_; dsimp only)); refine storeC16 rfl rfl rfl rfl rfl (by repeat (first | (with_reducible apply blk_far; case hp => assumption) | (with_reducible apply blk_set) | (with_reducible refine blk_drewN ?_ _) | (with_reducible refine blk_drew ?_) | (with_reducible refine blk_alloc ?_ _) | (first | with_reducible exact BK130.out | with_reducible exact BK131.out))) (by first | (simp only [List.setIfInBounds_toArray, List.set_cons_zero, List.set_cons_succ] <;> rfl) | rfl) (by kernel_rfl) rfl ?_) | ((with_reducible refine gate_ld (ty := 24) rfl ?_); (try (with_reducible refine gate_gd rfl ?_; refine gate_guard (by first | rfl | exact wanted_on rfl rfl rfl (by first | rfl | (simp [*]; done) | fail) | fail) ?_; dsimp only)); refine load_st rfl rfl rfl (by repeat (first | (with_reducible apply blk_far; case hp => assumption) | (with_reducible apply blk_set) | (with_reducible refine blk_drewN ?_ _) | (with_reducible refine blk_drew ?_) | (with_reducible refine blk_alloc ?_ _) | (first | with_reducible exact BK130.out | with_reducible exact BK131.out))) (by first | (simp only [List.setIfInBounds_toArray, List.set_cons_zero, List.set_cons_succ] <;> rfl) | rfl) Tryd.underlying24 rfl (by kernel_rfl) ?_; (try simp only [Act.put, List.setIfInBounds_toArray, List.set_cons_zero, List.set_cons_succ])) | ((with_reducible refine gate_eql (ty := 24) rfl ?_); (try (with_reducible refine gate_gd rfl ?_; refine gate_guard (by first | rfl | exact wanted_on rfl rfl rfl (by first | rfl | (simp [*]; done) | fail) | fail) ?_; dsimp only)); refine eql24 rfl rfl rfl rfl true (by first | exact c41b0 | (simpa using c41b0) | exact c46b0 | (simpa using c46b0) | exact c69b0 | (simpa using c69b0)) ?_; (try simp only [Act.put, List.setIfInBounds_toArray, List.set_cons_zero, List.set_cons_succ])) | ((with_reducible refine gate_eql (ty := 24) rfl ?_); (try (with_reducible refine gate_gd rfl ?_; refine gate_guard (by first | rfl | exact wanted_on rfl rfl rfl (by first | rfl | (simp [*]; done) | fail) | fail) ?_; dsimp only)); refine eql24 rfl rfl rfl rfl false (by first | exact c41b0 | (simpa using c41b0) | exact c46b0 | (simpa using c46b0) | exact c69b0 | (simpa using c69b0)) ?_; (try simp only [Act.put, List.setIfInBounds_toArray, List.set_cons_zero, List.set_cons_succ])) | go_in)
         go_meet
         case rel => exact ⟨_, (false), (by first | rfl | (simp; done) | (simp [*]; done)), H', ⟨by have := HJ1.out; first | omega | exact Nat.le_refl _⟩, ⟨by (with_reducible repeat (first | refine blk_drewN ?_ _ | refine blk_drew ?_ | refine blk_alloc ?_ _)); exact BK130.out⟩, ⟨by (with_reducible repeat (first | refine blk_drewN ?_ _ | refine blk_drew ?_ | refine blk_alloc ?_ _)); exact BK131.out⟩, ⟨by repeat (first | (with_reducible first | exact HB.out | apply below_alloc | apply pw_below_drewN | apply below_drew1 | refine below_set ?_ GE130.out | refine below_set ?_ GE131.out) | exact HB.out)⟩⟩
        ·rw [if_neg c57] at H
         have c57b0 : (a0_0 == 2) = false := beq_eq_false_iff_ne.mpr c57
         have c57b1 : (a0_0 != 2) = true := bne_iff_ne.mpr c57
         have H' := Aside0.mk H
         clear H
         have hnb60 := NB130_131.out
         have hnc60 := NB131_130.out
         obtain ⟨hcz61_0, hcz61_1, hcz61_2, hcz61_3, hcz61_4, hcz61_5, hcz61_6, hcz61_7, hcz61_8, hcz61_9, hcz61_10, hcz61_11, hcz61_12, hcz61_13, hcz61_14, hcz61_15⟩ := cells16 BK130.out
         obtain ⟨hfz61_0, hfz61_1, hfz61_2, hfz61_3, hfz61_4, hfz61_5, hfz61_6, hfz61_7, hfz61_8, hfz61_9, hfz61_10, hfz61_11, hfz61_12, hfz61_13, hfz61_14, hfz61_15⟩ := frozen16 BK130.out
         go_wp2_with (first | ((with_reducible refine gate_st (ty := 24) rfl ?_); (try (with_reducible refine gate_gd rfl ?_; refine gate_guard (by first | rfl | exact wanted_on rfl rfl rfl (by first | rfl | (simp [*]; done) | fail) | fail) ?_; dsimp only)); refine storeC16 rfl rfl rfl rfl rfl (by repeat (first | (with_reducible apply blk_far; case hp => assumption) | (with_reducible apply blk_set) | (with_reducible refine blk_drewN ?_ _) | (with_reducible refine blk_drew ?_) | (with_reducible refine blk_alloc ?_ _) | (first | with_reducible exact BK130.out | with_reducible exact BK131.out))) (by first | (simp only [List.setIfInBounds_toArray, List.set_cons_zero, List.set_cons_succ] <;> rfl) | rfl) (by kernel_rfl) rfl ?_) | ((with_reducible refine gate_ld (ty := 24) rfl ?_); (try (with_reducible refine gate_gd rfl ?_; refine gate_guard (by first | rfl | exact wanted_on rfl rfl rfl (by first | rfl | (simp [*]; done) | fail) | fail) ?_; dsimp only)); refine load_st rfl rfl rfl (by repeat (first | (with_reducible apply blk_far; case hp => assumption) | (with_reducible apply blk_set) | (with_reducible refine blk_drewN ?_ _) | (with_reducible refine blk_drew ?_) | (with_reducible refine blk_alloc ?_ _) | (first | with_reducible exact BK130.out | with_reducible exact BK131.out))) (by first | (simp only [List.setIfInBounds_toArray, List.set_cons_zero, List.set_cons_succ] <;> rfl) | rfl) Tryd.underlying24 rfl (by kernel_rfl) ?_; (try simp only [Act.put, List.setIfInBounds_toArray, List.set_cons_zero, List.set_cons_succ])) | ((with_reducible refine gate_eql (ty := 24) rfl ?_); (try (with_reducible refine gate_gd rfl ?_; refine gate_guard (by first | rfl | exact wanted_on rfl rfl rfl (by first | rfl | (simp [*]; done) | fail) | fail) ?_; dsimp only)); refine eql24 rfl rfl rfl rfl true (by first | exact c41b0 | (simpa using c41b0) | exact c46b0 | (simpa using c46b0) | exact c69b0 | (simpa using c69b0)) ?_; (try simp only [Act.put, List.setIfInBounds_toArray, List.set_cons_zero, List.set_cons_succ])) | ((with_reducible refine gate_eql (ty := 24) rfl ?_); (try (with_reducible refine gate_gd rfl ?_; refine gate_guard (by first | rfl | exact wanted_on rfl rfl rfl (by first | rfl | (simp [*]; done) | fail) | fail) ?_; dsimp only)); refine eql24 rfl rfl rfl rfl false (by first | exact c41b0 | (simpa using c41b0) | exact c46b0 | (simpa using c46b0) | exact c69b0 | (simpa using c69b0)) ?_; (try simp only [Act.put, List.setIfInBounds_toArray, List.set_cons_zero, List.set_cons_succ])) | go_in)
         go_meet
         case rel => exact ⟨_, (false), (by first | rfl | (simp; done) | (simp [*]; done)), H', ⟨by have := HJ1.out; first | omega | exact Nat.le_refl _⟩, ⟨by (with_reducible repeat (first | refine blk_drewN ?_ _ | refine blk_drew ?_ | refine blk_alloc ?_ _)); exact BK130.out⟩, ⟨by (with_reducible repeat (first | refine blk_drewN ?_ _ | refine blk_drew ?_ | refine blk_alloc ?_ _)); exact BK131.out⟩, ⟨by repeat (first | (with_reducible first | exact HB.out | apply below_alloc | apply pw_below_drewN | apply below_drew1 | refine below_set ?_ GE130.out | refine below_set ?_ GE131.out) | exact HB.out)⟩⟩
      ·rw [if_neg c44] at H
       have c44b0 : (a0_0 == 0) = false := beq_eq_false_iff_ne.mpr c44
       have c44b1 : (a0_0 != 0) = true := bne_iff_ne.mpr c44
       by_cases c62 : a0_0 = 2
       ·rw [if_pos c62] at H
        have c62b0 : (a0_0 == 2) = true := beq_iff_eq.mpr c62
        have c62b1 : (a0_0 != 2) = false := bne_eq_false_iff_eq.mpr c62
        clear c62
        have H' := Aside0.mk H
        clear H
        have hnb63 := NB130_131.out
        have hnc63 := NB131_130.out
        obtain ⟨hcz64_0, hcz64_1, hcz64_2, hcz64_3, hcz64_4, hcz64_5, hcz64_6, hcz64_7, hcz64_8, hcz64_9, hcz64_10, hcz64_11, hcz64_12, hcz64_13, hcz64_14, hcz64_15⟩ := cells16 BK130.out
        obtain ⟨hfz64_0, hfz64_1, hfz64_2, hfz64_3, hfz64_4, hfz64_5, hfz64_6, hfz64_7, hfz64_8, hfz64_9, hfz64_10, hfz64_11, hfz64_12, hfz64_13, hfz64_14, hfz64_15⟩ := frozen16 BK130.out
        go_wp2_with (first | ((with_reducible refine gate_st (ty := 24) rfl ?_); (try (with_reducible refine gate_gd rfl ?_; refine gate_guard (by first | rfl | exact wanted_on rfl rfl rfl (by first | rfl | (simp [*]; done) | fail) | fail) ?_; dsimp only)); refine storeC16 rfl rfl rfl rfl rfl (by repeat (first | (with_reducible apply blk_far; case hp => assumption) | (with_reducible apply blk_set) | (with_reducible refine blk_drewN ?_ _) | (with_reducible refine blk_drew ?_) | (with_reducible refine blk_alloc ?_ _) | (first | with_reducible exact BK130.out | with_reducible exact BK131.out))) (by first | (simp only [List.setIfInBounds_toArray, List.set_cons_zero, List.set_cons_succ] <;> rfl) | rfl) (by kernel_rfl) rfl ?_) | ((with_reducible refine gate_ld (ty := 24) rfl ?_); (try (with_reducible refine gate_gd rfl ?_; refine gate_guard (by first | rfl | exact wanted_on rfl rfl rfl (by first | rfl | (simp [*]; done) | fail) | fail) ?_; dsimp only)); refine load_st rfl rfl rfl (by repeat (first | (with_reducible apply blk_far; case hp => assumption) | (with_reducible apply blk_set) | (with_reducible refine blk_drewN ?_ _) | (with_reducible refine blk_drew ?_) | (with_reducible refine blk_alloc ?_ _) | (first | with_reducible exact BK130.out | with_reducible exact BK131.out))) (by first | (simp only [List.setIfInBounds_toArray, List.set_cons_zero, List.set_cons_succ] <;> rfl) | rfl) Tryd.underlying24 rfl (by kernel_rfl) ?_; (try simp only [Act.put, List.setIfInBounds_toArray, List.set_cons_zero, List.set_cons_succ])) | ((with_reducible refine gate_eql (ty := 24) rfl ?_); (try (with_reducible refine gate_gd rfl ?_; refine gate_guard (by first | rfl | exact wanted_on rfl rfl rfl (by first | rfl | (simp [*]; done) | fail) | fail) ?_; dsimp only)); refine eql24 rfl rfl rfl rfl true (by first | exact c41b0 | (simpa using c41b0) | exact c46b0 | (simpa using c46b0) | exact c69b0 | (simpa using c69b0)) ?_; (try simp only [Act.put, List.setIfInBounds_toArray, List.set_cons_zero, List.set_cons_succ])) | ((with_reducible refine gate_eql (ty := 24) rfl ?_); (try (with_reducible refine gate_gd rfl ?_; refine gate_guard (by first | rfl | exact wanted_on rfl rfl rfl (by first | rfl | (simp [*]; done) | fail) | fail) ?_; dsimp only)); refine eql24 rfl rfl rfl rfl false (by first | exact c41b0 | (simpa using c41b0) | exact c46b0 | (simpa using c46b0) | exact c69b0 | (simpa using c69b0)) ?_; (try simp only [Act.put, List.setIfInBounds_toArray, List.set_cons_zero, List.set_cons_succ])) | go_in)
        go_meet
        case rel => exact ⟨_, (x4_1), (by first | rfl | (simp; done) | (simp [*]; done)), H', ⟨by have := HJ1.out; first | omega | exact Nat.le_refl _⟩, ⟨by (with_reducible repeat (first | refine blk_drewN ?_ _ | refine blk_drew ?_ | refine blk_alloc ?_ _)); exact BK130.out⟩, ⟨by (with_reducible repeat (first | refine blk_drewN ?_ _ | refine blk_drew ?_ | refine blk_alloc ?_ _)); exact BK131.out⟩, ⟨by repeat (first | (with_reducible first | exact HB.out | apply below_alloc | apply pw_below_drewN | apply below_drew1 | refine below_set ?_ GE130.out | refine below_set ?_ GE131.out) | exact HB.out)⟩⟩
       ·rw [if_neg c62] at H
        have c62b0 : (a0_0 == 2) = false := beq_eq_false_iff_ne.mpr c62
        have c62b1 : (a0_0 != 2) = true := bne_iff_ne.mpr c62
        have H' := Aside0.mk H
        clear H
        have hnb65 := NB130_131.out
        have hnc65 := NB131_130.out
        obtain ⟨hcz66_0, hcz66_1, hcz66_2, hcz66_3, hcz66_4, hcz66_5, hcz66_6, hcz66_7, hcz66_8, hcz66_9, hcz66_10, hcz66_11, hcz66_12, hcz66_13, hcz66_14, hcz66_15⟩ := cells16 BK130.out
        obtain ⟨hfz66_0, hfz66_1, hfz66_2, hfz66_3, hfz66_4, hfz66_5, hfz66_6, hfz66_7, hfz66_8, hfz66_9, hfz66_10, hfz66_11, hfz66_12, hfz66_13, hfz66_14, hfz66_15⟩ := frozen16 BK130.out
        go_wp2_with (first | ((with_reducible refine gate_st (ty := 24) rfl ?_); (try (with_reducible refine gate_gd rfl ?_; refine gate_guard (by first | rfl | exact wanted_on rfl rfl rfl (by first | rfl | (simp [*]; done) | fail) | fail) ?_; dsimp only)); refine storeC16 rfl rfl rfl rfl rfl (by repeat (first | (with_reducible apply blk_far; case hp => assumption) | (with_reducible apply blk_set) | (with_reducible refine blk_drewN ?_ _) | (with_reducible refine blk_drew ?_) | (with_reducible refine blk_alloc ?_ _) | (first | with_reducible exact BK130.out | with_reducible exact BK131.out))) (by first | (simp only [List.setIfInBounds_toArray, List.set_cons_zero, List.set_cons_succ] <;> rfl) | rfl) (by kernel_rfl) rfl ?_) | ((with_reducible refine gate_ld (ty := 24) rfl ?_); (try (with_reducible refine gate_gd rfl ?_; refine gate_guard (by first | rfl | exact wanted_on rfl rfl rfl (by first | rfl | (simp [*]; done) | fail) | fail) ?_; dsimp only)); refine load_st rfl rfl rfl (by repeat (first | (with_reducible apply blk_far; case hp => assumption) | (with_reducible apply blk_set) | (with_reducible refine blk_drewN ?_ _) | (with_reducible refine blk_drew ?_) | (with_reducible refine blk_alloc ?_ _) | (first | with_reducible exact BK130.out | with_reducible exact BK131.out))) (by first | (simp only [List.setIfInBounds_toArray, List.set_cons_zero, List.set_cons_succ] <;> rfl) | rfl) Tryd.underlying24 rfl (by kernel_rfl) ?_; (try simp only [Act.put, List.setIfInBounds_toArray, List.set_cons_zero, List.set_cons_succ])) | ((with_reducible refine gate_eql (ty := 24) rfl ?_); (try (with_reducible refine gate_gd rfl ?_; refine gate_guard (by first | rfl | exact wanted_on rfl rfl rfl (by first | rfl | (simp [*]; done) | fail) | fail) ?_; dsimp only)); refine eql24 rfl rfl rfl rfl true (by first | exact c41b0 | (simpa using c41b0) | exact c46b0 | (simpa using c46b0) | exact c69b0 | (simpa using c69b0)) ?_; (try simp only [Act.put, List.setIfInBounds_toArray, List.set_cons_zero, List.set_cons_succ])) | ((with_reducible refine gate_eql (ty := 24) rfl ?_); (try (with_reducible refine gate_gd rfl ?_; refine gate_guard (by first | rfl | exact wanted_on rfl rfl rfl (by first | rfl | (simp [*]; done) | fail) | fail) ?_; dsimp only)); refine eql24 rfl rfl rfl rfl false (by first | exact c41b0 | (simpa using c41b0) | exact c46b0 | (simpa using c46b0) | exact c69b0 | (simpa using c69b0)) ?_; (try simp only [Act.put, List.setIfInBounds_toArray, List.set_cons_zero, List.set_cons_succ])) | go_in)
        go_meet
        case rel => exact ⟨_, (false), (by first | rfl | (simp; done) | (simp [*]; done)), H', ⟨by have := HJ1.out; first | omega | exact Nat.le_refl _⟩, ⟨by (with_reducible repeat (first | refine blk_drewN ?_ _ | refine blk_drew ?_ | refine blk_alloc ?_ _)); exact BK130.out⟩, ⟨by (with_reducible repeat (first | refine blk_drewN ?_ _ | refine blk_drew ?_ | refine blk_alloc ?_ _)); exact BK131.out⟩, ⟨by repeat (first | (with_reducible first | exact HB.out | apply below_alloc | apply pw_below_drewN | apply below_drew1 | refine below_set ?_ GE130.out | refine below_set ?_ GE131.out) | exact HB.out)⟩⟩
    ·rw [if_neg c40] at H
     have c40b0 : (a0_0 == 128) = false := beq_eq_false_iff_ne.mpr c40
     have c40b1 : (a0_0 != 128) = true := bne_iff_ne.mpr c40
     (first | rw [c40b0] | (simp only [i64_w, i32_w]; rw [c40b0]) | skip)
     by_cases c67 : a0_0 = 0
     ·rw [if_pos c67] at H
      have c67b0 : (a0_0 == 0) = true := beq_iff_eq.mpr c67
      have c67b1 : (a0_0 != 0) = false := bne_eq_false_iff_eq.mpr c67
      clear c67
      by_cases c68 : x4_1 = true
      ·subst c68
       have H1 : (if (a0_0 == a0_0 && (a0_1 == a0_1 && (a0_2 == false && (a0_3 == false && (a0_4 == false && (a0_5 == false && (a0_6 == a0_6 && (a0_7 == 0 && (a0_8 == a0_8 && (a0_9 == a0_9 && (a0_10 == a0_10 && (a0_11 == a0_11 && (a0_12 == a0_12 && (a0_13 == a0_13 && (a0_14 == a0_14 && (a0_15 == a0_15)))))))))))))))) = true then (gangwayref09_Check.j1 kj1 true) else (if a0_0 = 2 then (gangwayref09_Check.j1 kj1 true) else (gangwayref09_Check.j1 kj1 false))) = some r := by rw [if_pos rfl] at H; exact H
       clear H
       have H := H1
       clear H1
       by_cases c69 : (a0_0 == a0_0 && (a0_1 == a0_1 && (a0_2 == false && (a0_3 == false && (a0_4 == false && (a0_5 == false && (a0_6 == a0_6 && (a0_7 == 0 && (a0_8 == a0_8 && (a0_9 == a0_9 && (a0_10 == a0_10 && (a0_11 == a0_11 && (a0_12 == a0_12 && (a0_13 == a0_13 && (a0_14 == a0_14 && (a0_15 == a0_15)))))))))))))))) = true
       ·rw [if_pos c69] at H
        have c69b0 : (a0_0 == a0_0 && (a0_1 == a0_1 && (a0_2 == false && (a0_3 == false && (a0_4 == false && (a0_5 == false && (a0_6 == a0_6 && (a0_7 == 0 && (a0_8 == a0_8 && (a0_9 == a0_9 && (a0_10 == a0_10 && (a0_11 == a0_11 && (a0_12 == a0_12 && (a0_13 == a0_13 && (a0_14 == a0_14 && (a0_15 == a0_15)))))))))))))))) = true := c69
        clear c69
        have H' := Aside0.mk H
        clear H
        have hnb70 := NB130_131.out
        have hnc70 := NB131_130.out
        obtain ⟨hcz71_0, hcz71_1, hcz71_2, hcz71_3, hcz71_4, hcz71_5, hcz71_6, hcz71_7, hcz71_8, hcz71_9, hcz71_10, hcz71_11, hcz71_12, hcz71_13, hcz71_14, hcz71_15⟩ := cells16 BK130.out
        obtain ⟨hfz71_0, hfz71_1, hfz71_2, hfz71_3, hfz71_4, hfz71_5, hfz71_6, hfz71_7, hfz71_8, hfz71_9, hfz71_10, hfz71_11, hfz71_12, hfz71_13, hfz71_14, hfz71_15⟩ := frozen16 BK130.out
        obtain ⟨hcz72_0, hcz72_1, hcz72_2, hcz72_3, hcz72_4, hcz72_5, hcz72_6, hcz72_7, hcz72_8, hcz72_9, hcz72_10, hcz72_11, hcz72_12, hcz72_13, hcz72_14, hcz72_15⟩ := cells16 BK131.out
        obtain ⟨hfz72_0, hfz72_1, hfz72_2, hfz72_3, hfz72_4, hfz72_5, hfz72_6, hfz72_7, hfz72_8, hfz72_9, hfz72_10, hfz72_11, hfz72_12, hfz72_13, hfz72_14, hfz72_15⟩ := frozen16 BK131.out
        go_wp2_with (first | ((with_reducible refine gate_st (ty := 24) rfl ?_); (try (with_reducible refine gate_gd rfl ?_; refine gate_guard (by first | rfl | exact wanted_on rfl rfl rfl (by first | rfl | (simp [*]; done) | fail) | fail) ?_; dsimp only)); refine storeC16 rfl rfl rfl rfl rfl (by repeat (first | (with_reducible apply blk_far; case hp => assumption) | (with_reducible apply blk_set) | (with_reducible refine blk_drewN ?_ _) | (with_reducible refine blk_drew ?_) | (with_reducible refine blk_alloc ?_ _) | (first | with_reducible exact BK130.out | with_reducible exact BK131.out))) (by first | (simp only [List.setIfInBounds_toArray, List.set_cons_zero, List.set_cons_succ] <;> rfl) | rfl) (by kernel_rfl) rfl ?_) | ((with_reducible refine gate_ld (ty := 24) rfl ?_); (try (with_reducible refine gate_gd rfl ?_; refine gate_guard (by first | rfl | exact wanted_on rfl rfl rfl (by first | rfl | (simp [*]; done) | fail) | fail) ?_; dsimp only)); refine load_st rfl rfl rfl (by repeat (first | (with_reducible apply blk_far; case hp => assumption) | (with_reducible apply blk_set) | (with_reducible refine blk_drewN ?_ _) | (with_reducible refine blk_drew ?_) | (with_reducible refine blk_alloc ?_ _) | (first | with_reducible exact BK130.out | with_reducible exact BK131.out))) (by first | (simp only [List.setIfInBounds_toArray, List.set_cons_zero, List.set_cons_succ] <;> rfl) | rfl) Tryd.underlying24 rfl (by kernel_rfl) ?_; (try simp only [Act.put, List.setIfInBounds_toArray, List.set_cons_zero, List.set_cons_succ])) | ((with_reducible refine gate_eql (ty := 24) rfl ?_); (try (with_reducible refine gate_gd rfl ?_; refine gate_guard (by first | rfl | exact wanted_on rfl rfl rfl (by first | rfl | (simp [*]; done) | fail) | fail) ?_; dsimp only)); refine eql24 rfl rfl rfl rfl true (by first | exact c41b0 | (simpa using c41b0) | exact c46b0 | (simpa using c46b0) | exact c69b0 | (simpa using c69b0)) ?_; (try simp only [Act.put, List.setIfInBounds_toArray, List.set_cons_zero, List.set_cons_succ])) | ((with_reducible refine gate_eql (ty := 24) rfl ?_); (try (with_reducible refine gate_gd rfl ?_; refine gate_guard (by first | rfl | exact wanted_on rfl rfl rfl (by first | rfl | (simp [*]; done) | fail) | fail) ?_; dsimp only)); refine eql24 rfl rfl rfl rfl false (by first | exact c41b0 | (simpa using c41b0) | exact c46b0 | (simpa using c46b0) | exact c69b0 | (simpa using c69b0)) ?_; (try simp only [Act.put, List.setIfInBounds_toArray, List.set_cons_zero, List.set_cons_succ])) | go_in)
        go_meet
        case rel => exact ⟨_, (true), (by first | rfl | (simp; done) | (simp [*]; done)), H', ⟨by have := HJ1.out; first | omega | exact Nat.le_refl _⟩, ⟨by (with_reducible repeat (first | refine blk_drewN ?_ _ | refine blk_drew ?_ | refine blk_alloc ?_ _)); exact BK130.out⟩, ⟨by (with_reducible repeat (first | refine blk_drewN ?_ _ | refine blk_drew ?_ | refine blk_alloc ?_ _)); exact BK131.out⟩, ⟨by repeat (first | (with_reducible first | exact HB.out | apply below_alloc | apply pw_below_drewN | apply below_drew1 | refine below_set ?_ GE130.out | refine below_set ?_ GE131.out) | exact HB.out)⟩⟩
       ·rw [if_neg c69] at H
        have c69b0 : (a0_0 == a0_0 && (a0_1 == a0_1 && (a0_2 == false && (a0_3 == false && (a0_4 == false && (a0_5 == false && (a0_6 == a0_6 && (a0_7 == 0 && (a0_8 == a0_8 && (a0_9 == a0_9 && (a0_10 == a0_10 && (a0_11 == a0_11 && (a0_12 == a0_12 && (a0_13 == a0_13 && (a0_14 == a0_14 && (a0_15 == a0_15)))))))))))))))) = false := by simpa using c69
        (try (have c69b3 : ¬ (a0_0 = a0_0 && (a0_1 == a0_1 && (a0_2 == false && (a0_3 == false && (a0_4 == false && (a0_5 == false && (a0_6 == a0_6 && (a0_7 == 0 && (a0_8 == a0_8 && (a0_9 == a0_9 && (a0_10 == a0_10 && (a0_11 == a0_11 && (a0_12 == a0_12 && (a0_13 == a0_13 && (a0_14 == a0_14 && (a0_15 == a0_15)))))))))))))))) := by simpa using c69))
        clear c69
        by_cases c73 : a0_0 = 2
        ·rw [if_pos c73] at H
         have c73b0 : (a0_0 == 2) = true := beq_iff_eq.mpr c73
         have c73b1 : (a0_0 != 2) = false := bne_eq_false_iff_eq.mpr c73
         clear c73
         have H' := Aside0.mk H
         clear H
         have hnb74 := NB130_131.out
         have hnc74 := NB131_130.out
         obtain ⟨hcz75_0, hcz75_1, hcz75_2, hcz75_3, hcz75_4, hcz75_5, hcz75_6, hcz75_7, hcz75_8, hcz75_9, hcz75_10, hcz75_11, hcz75_12, hcz75_13, hcz75_14, hcz75_15⟩ := cells16 BK130.out
         obtain ⟨hfz75_0, hfz75_1, hfz75_2, hfz75_3, hfz75_4, hfz75_5, hfz75_6, hfz75_7, hfz75_8, hfz75_9, hfz75_10, hfz75_11, hfz75_12, hfz75_13, hfz75_14, hfz75_15⟩ := frozen16 BK130.out
         obtain ⟨hcz76_0, hcz76_1, hcz76_2, hcz76_3, hcz76_4, hcz76_5, hcz76_6, hcz76_7, hcz76_8, hcz76_9, hcz76_10, hcz76_11, hcz76_12, hcz76_13, hcz76_14, hcz76_15⟩ := cells16 BK131.out
         obtain ⟨hfz76_0, hfz76_1, hfz76_2, hfz76_3, hfz76_4, hfz76_5, hfz76_6, hfz76_7, hfz76_8, hfz76_9, hfz76_10, hfz76_11, hfz76_12, hfz76_13, hfz76_14, hfz76_15⟩ := frozen16 BK131.out
         go_wp2_with (first | ((with_reducible refine gate_st (ty := 24) rfl ?_); (try (with_reducible refine gate_gd rfl ?_; refine gate_guard (by first | rfl | exact wanted_on rfl rfl rfl (by first | rfl | (simp [*]; done) | fail) | fail) ?_; dsimp only)); refine storeC16 rfl rfl rfl rfl rfl (by repeat (first | (with_reducible apply blk_far; case hp => assumption) | (with_reducible apply blk_set) | (with_reducible refine blk_drewN ?_ _) | (with_reducible refine blk_drew ?_) | (with_reducible refine blk_alloc ?_ _) | (first | with_reducible exact BK130.out | with_reducible exact BK131.out))) (by first | (simp only [List.setIfInBounds_toArray, List.set_cons_zero, List.set_cons_succ] <;> rfl) | rfl) (by kernel_rfl) rfl ?_) | ((with_reducible refine gate_ld (ty := 24) rfl ?_); (try (with_reducible refine gate_gd rfl ?_; refine gate_guard (by first | rfl | exact wanted_on rfl rfl rfl (by first | rfl | (simp [*]; done) | fail) | fail) ?_; dsimp only)); refine load_st rfl rfl rfl (by repeat (first | (with_reducible apply blk_far; case hp => assumption) | (with_reducible apply blk_set) | (with_reducible refine blk_drewN ?_ _) | (with_reducible refine blk_drew ?_) | (with_reducible refine blk_alloc ?_ _) | (first | with_reducible exact BK130.out | with_reducible exact BK131.out))) (by first | (simp only [List.setIfInBounds_toArray, List.set_cons_zero, List.set_cons_succ] <;> rfl) | rfl) Tryd.underlying24 rfl (by kernel_rfl) ?_; (try simp only [Act.put, List.setIfInBounds_toArray, List.set_cons_zero, List.set_cons_succ])) | ((with_reducible refine gate_eql (ty := 24) rfl ?_); (try (with_reducible refine gate_gd rfl ?_; refine gate_guard (by first | rfl | exact wanted_on rfl rfl rfl (by first | rfl | (simp [*]; done) | fail) | fail) ?_; dsimp only)); refine eql24 rfl rfl rfl rfl true (by first | exact c41b0 | (simpa using c41b0) | exact c46b0 | (simpa using c46b0) | exact c69b0 | (simpa using c69b0)) ?_; (try simp only [Act.put, List.setIfInBounds_toArray, List.set_cons_zero, List.set_cons_succ])) | ((with_reducible refine gate_eql (ty := 24) rfl ?_); (try (with_reducible refine gate_gd rfl ?_; refine gate_guard (by first | rfl | exact wanted_on rfl rfl rfl (by first | rfl | (simp [*]; done) | fail) | fail) ?_; dsimp only)); refine eql24 rfl rfl rfl rfl false (by first | exact c41b0 | (simpa using c41b0) | exact c46b0 | (simpa using c46b0) | exact c69b0 | (simpa using c69b0)) ?_; (try simp only [Act.put, List.setIfInBounds_toArray, List.set_cons_zero, List.set_cons_succ])) | go_in)
         go_meet
         case rel => exact ⟨_, (true), (by first | rfl | (simp; done) | (simp [*]; done)), H', ⟨by have := HJ1.out; first | omega | exact Nat.le_refl _⟩, ⟨by (with_reducible repeat (first | refine blk_drewN ?_ _ | refine blk_drew ?_ | refine blk_alloc ?_ _)); exact BK130.out⟩, ⟨by (with_reducible repeat (first | refine blk_drewN ?_ _ | refine blk_drew ?_ | refine blk_alloc ?_ _)); exact BK131.out⟩, ⟨by repeat (first | (with_reducible first | exact HB.out | apply below_alloc | apply pw_below_drewN | apply below_drew1 | refine below_set ?_ GE130.out | refine below_set ?_ GE131.out) | exact HB.out)⟩⟩
        ·rw [if_neg c73] at H
         have c73b0 : (a0_0 == 2) = false := beq_eq_false_iff_ne.mpr c73
         have c73b1 : (a0_0 != 2) = true := bne_iff_ne.mpr c73
         have H' := Aside0.mk H
         clear H
         have hnb77 := NB130_131.out
         have hnc77 := NB131_130.out
         obtain ⟨hcz78_0, hcz78_1, hcz78_2, hcz78_3, hcz78_4, hcz78_5, hcz78_6, hcz78_7, hcz78_8, hcz78_9, hcz78_10, hcz78_11, hcz78_12, hcz78_13, hcz78_14, hcz78_15⟩ := cells16 BK130.out
         obtain ⟨hfz78_0, hfz78_1, hfz78_2, hfz78_3, hfz78_4, hfz78_5, hfz78_6, hfz78_7, hfz78_8, hfz78_9, hfz78_10, hfz78_11, hfz78_12, hfz78_13, hfz78_14, hfz78_15⟩ := frozen16 BK130.out
         obtain ⟨hcz79_0, hcz79_1, hcz79_2, hcz79_3, hcz79_4, hcz79_5, hcz79_6, hcz79_7, hcz79_8, hcz79_9, hcz79_10, hcz79_11, hcz79_12, hcz79_13, hcz79_14, hcz79_15⟩ := cells16 BK131.out
         obtain ⟨hfz79_0, hfz79_1, hfz79_2, hfz79_3, hfz79_4, hfz79_5, hfz79_6, hfz79_7, hfz79_8, hfz79_9, hfz79_10, hfz79_11, hfz79_12, hfz79_13, hfz79_14, hfz79_15⟩ := frozen16 BK131.out
         go_wp2_with (first | ((with_reducible refine gate_st (ty := 24) rfl ?_); (try (with_reducible refine gate_gd rfl ?_; refine gate_guard (by first | rfl | exact wanted_on rfl rfl rfl (by first | rfl | (simp [*]; done) | fail) | fail) ?_; dsimp only)); refine storeC16 rfl rfl rfl rfl rfl (by repeat (first | (with_reducible apply blk_far; case hp => assumption) | (with_reducible apply blk_set) | (with_reducible refine blk_drewN ?_ _) | (with_reducible refine blk_drew ?_) | (with_reducible refine blk_alloc ?_ _) | (first | with_reducible exact BK130.out | with_reducible exact BK131.out))) (by first | (simp only [List.setIfInBounds_toArray, List.set_cons_zero, List.set_cons_succ] <;> rfl) | rfl) (by kernel_rfl) rfl ?_) | ((with_reducible refine gate_ld (ty := 24) rfl ?_); (try (with_reducible refine gate_gd rfl ?_; refine gate_guard (by first | rfl | exact wanted_on rfl rfl rfl (by first | rfl | (simp [*]; done) | fail) | fail) ?_; dsimp only)); refine load_st rfl rfl rfl (by repeat (first | (with_reducible apply blk_far; case hp => assumption) | (with_reducible apply blk_set) | (with_reducible refine blk_drewN ?_ _) | (with_reducible refine blk_drew ?_) | (with_reducible refine blk_alloc ?_ _) | (first | with_reducible exact BK130.out | with_reducible exact BK131.out))) (by first | (simp only [List.setIfInBounds_toArray, List.set_cons_zero, List.set_cons_succ] <;> rfl) | rfl) Tryd.underlying24 rfl (by kernel_rfl) ?_; (try simp only [Act.put, List.setIfInBounds_toArray, List.set_cons_zero, List.set_cons_succ])) | ((with_reducible refine gate_eql (ty := 24) rfl ?_); (try (with_reducible refine gate_gd rfl ?_; refine gate_guard (by first | rfl | exact wanted_on rfl rfl rfl (by first | rfl | (simp [*]; done) | fail) | fail) ?_; dsimp only)); refine eql24 rfl rfl rfl rfl true (by first | exact c41b0 | (simpa using c41b0) | exact c46b0 | (simpa using c46b0) | exact c69b0 | (simpa using c69b0)) ?_; (try simp only [Act.put, List.setIfInBounds_toArray, List.set_cons_zero, List.set_cons_succ])) | ((with_reducible refine gate_eql (ty := 24) rfl ?_); (try (with_reducible refine gate_gd rfl ?_; refine gate_guard (by first | rfl | exact wanted_on rfl rfl rfl (by first | rfl | (simp [*]; done) | fail) | fail) ?_; dsimp only)); refine eql24 rfl rfl rfl rfl false (by first | exact c41b0 | (simpa using c41b0) | exact c46b0 | (simpa using c46b0) | exact c69b0 | (simpa using c69b0)) ?_; (try simp only [Act.put, List.setIfInBounds_toArray, List.set_cons_zero, List.set_cons_succ])) | go_in)
         go_meet
         case rel => exact ⟨_, (false), (by first | rfl | (simp; done) | (simp [*]; done)), H', ⟨by have := HJ1.out; first | omega | exact Nat.le_refl _⟩, ⟨by (with_reducible repeat (first | refine blk_drewN ?_ _ | refine blk_drew ?_ | refine blk_alloc ?_ _)); exact BK130.out⟩, ⟨by (with_reducible repeat (first | refine blk_drewN ?_ _ | refine blk_drew ?_ | refine blk_alloc ?_ _)); exact BK131.out⟩, ⟨by repeat (first | (with_reducible first | exact HB.out | apply below_alloc | apply pw_below_drewN | apply below_drew1 | refine below_set ?_ GE130.out | refine below_set ?_ GE131.out) | exact HB.out)⟩⟩
      ·replace c68 := Bool.eq_false_iff.mpr c68
       subst c68
       have H1 : (if a0_0 = 2 then (gangwayref09_Check.j1 kj1 false) else (gangwayref09_Check.j1 kj1 false)) = some r := by rw [if_neg (show ¬ (false = true) by decide)] at H; exact H
       clear H
       have H := H1
       clear H1
       by_cases c80 : a0_0 = 2
       ·rw [if_pos c80] at H
        have c80b0 : (a0_0 == 2) = true := beq_iff_eq.mpr c80
        have c80b1 : (a0_0 != 2) = false := bne_eq_false_iff_eq.mpr c80
        clear c80
        have H' := Aside0.mk H
        clear H
        have hnb81 := NB130_131.out
        have hnc81 := NB131_130.out
        obtain ⟨hcz82_0, hcz82_1, hcz82_2, hcz82_3, hcz82_4, hcz82_5, hcz82_6, hcz82_7, hcz82_8, hcz82_9, hcz82_10, hcz82_11, hcz82_12, hcz82_13, hcz82_14, hcz82_15⟩ := cells16 BK130.out
        obtain ⟨hfz82_0, hfz82_1, hfz82_2, hfz82_3, hfz82_4, hfz82_5, hfz82_6, hfz82_7, hfz82_8, hfz82_9, hfz82_10, hfz82_11, hfz82_12, hfz82_13, hfz82_14, hfz82_15⟩ := frozen16 BK130.out
        go_wp2_with (first | ((with_reducible refine gate_st (ty := 24) rfl ?_); (try (with_reducible refine gate_gd rfl ?_; refine gate_guard (by first | rfl | exact wanted_on rfl rfl rfl (by first | rfl | (simp [*]; done) | fail) | fail) ?_; dsimp only)); refine storeC16 rfl rfl rfl rfl rfl (by repeat (first | (with_reducible apply blk_far; case hp => assumption) | (with_reducible apply blk_set) | (with_reducible refine blk_drewN ?_ _) | (with_reducible refine blk_drew ?_) | (with_reducible refine blk_alloc ?_ _) | (first | with_reducible exact BK130.out | with_reducible exact BK131.out))) (by first | (simp only [List.setIfInBounds_toArray, List.set_cons_zero, List.set_cons_succ] <;> rfl) | rfl) (by kernel_rfl) rfl ?_) | ((with_reducible refine gate_ld (ty := 24) rfl ?_); (try (with_reducible refine gate_gd rfl ?_; refine gate_guard (by first | rfl | exact wanted_on rfl rfl rfl (by first | rfl | (simp [*]; done) | fail) | fail) ?_; dsimp only)); refine load_st rfl rfl rfl (by repeat (first | (with_reducible apply blk_far; case hp => assumption) | (with_reducible apply blk_set) | (with_reducible refine blk_drewN ?_ _) | (with_reducible refine blk_drew ?_) | (with_reducible refine blk_alloc ?_ _) | (first | with_reducible exact BK130.out | with_reducible exact BK131.out))) (by first | (simp only [List.setIfInBounds_toArray, List.set_cons_zero, List.set_cons_succ] <;> rfl) | rfl) Tryd.underlying24 rfl (by kernel_rfl) ?_; (try simp only [Act.put, List.setIfInBounds_toArray, List.set_cons_zero, List.set_cons_succ])) | ((with_reducible refine gate_eql (ty := 24) rfl ?_); (try (with_reducible refine gate_gd rfl ?_; refine gate_guard (by first | rfl | exact wanted_on rfl rfl rfl (by first | rfl | (simp [*]; done) | fail) | fail) ?_; dsimp only)); refine eql24 rfl rfl rfl rfl true (by first | exact c41b0 | (simpa using c41b0) | exact c46b0 | (simpa using c46b0) | exact c69b0 | (simpa using c69b0)) ?_; (try simp only [Act.put, List.setIfInBounds_toArray, List.set_cons_zero, List.set_cons_succ])) | ((with_reducible refine gate_eql (ty := 24) rfl ?_); (try (with_reducible refine gate_gd rfl ?_; refine gate_guard (by first | rfl | exact wanted_on rfl rfl rfl (by first | rfl | (simp [*]; done) | fail) | fail) ?_; dsimp only)); refine eql24 rfl rfl rfl rfl false (by first | exact c41b0 | (simpa using c41b0) | exact c46b0 | (simpa using c46b0) | exact c69b0 | (simpa using c69b0)) ?_; (try simp only [Act.put, List.setIfInBounds_toArray, List.set_cons_zero, List.set_cons_succ])) | go_in)
        go_meet
        case rel => exact ⟨_, (false), (by first | rfl | (simp; done) | (simp [*]; done)), H', ⟨by have := HJ1.out; first | omega | exact Nat.le_refl _⟩, ⟨by (with_reducible repeat (first | refine blk_drewN ?_ _ | refine blk_drew ?_ | refine blk_alloc ?_ _)); exact BK130.out⟩, ⟨by (with_reducible repeat (first | refine blk_drewN ?_ _ | refine blk_drew ?_ | refine blk_alloc ?_ _)); exact BK131.out⟩, ⟨by repeat (first | (with_reducible first | exact HB.out | apply below_alloc | apply pw_below_drewN | apply below_drew1 | refine below_set ?_ GE130.out | refine below_set ?_ GE131.out) | exact HB.out)⟩⟩
       ·rw [if_neg c80] at H
        have c80b0 : (a0_0 == 2) = false := beq_eq_false_iff_ne.mpr c80
        have c80b1 : (a0_0 != 2) = true := bne_iff_ne.mpr c80
        have H' := Aside0.mk H
        clear H
        have hnb83 := NB130_131.out
        have hnc83 := NB131_130.out
        obtain ⟨hcz84_0, hcz84_1, hcz84_2, hcz84_3, hcz84_4, hcz84_5, hcz84_6, hcz84_7, hcz84_8, hcz84_9, hcz84_10, hcz84_11, hcz84_12, hcz84_13, hcz84_14, hcz84_15⟩ := cells16 BK130.out
        obtain ⟨hfz84_0, hfz84_1, hfz84_2, hfz84_3, hfz84_4, hfz84_5, hfz84_6, hfz84_7, hfz84_8, hfz84_9, hfz84_10, hfz84_11, hfz84_12, hfz84_13, hfz84_14, hfz84_15⟩ := frozen16 BK130.out
        go_wp2_with (first | ((with_reducible refine gate_st (ty := 24) rfl ?_); (try (with_reducible refine gate_gd rfl ?_; refine gate_guard (by first | rfl | exact wanted_on rfl rfl rfl (by first | rfl | (simp [*]; done) | fail) | fail) ?_; dsimp only)); refine storeC16 rfl rfl rfl rfl rfl (by repeat (first | (with_reducible apply blk_far; case hp => assumption) | (with_reducible apply blk_set) | (with_reducible refine blk_drewN ?_ _) | (with_reducible refine blk_drew ?_) | (with_reducible refine blk_alloc ?_ _) | (first | with_reducible exact BK130.out | with_reducible exact BK131.out))) (by first | (simp only [List.setIfInBounds_toArray, List.set_cons_zero, List.set_cons_succ] <;> rfl) | rfl) (by kernel_rfl) rfl ?_) | ((with_reducible refine gate_ld (ty := 24) rfl ?_); (try (with_reducible refine gate_gd rfl ?_; refine gate_guard (by first | rfl | exact wanted_on rfl rfl rfl (by first | rfl | (simp [*]; done) | fail) | fail) ?_; dsimp only)); refine load_st rfl rfl rfl (by repeat (first | (with_reducible apply blk_far; case hp => assumption) | (with_reducible apply blk_set) | (with_reducible refine blk_drewN ?_ _) | (with_reducible refine blk_drew ?_) | (with_reducible refine blk_alloc ?_ _) | (first | with_reducible exact BK130.out | with_reducible exact BK131.out))) (by first | (simp only [List.setIfInBounds_toArray, List.set_cons_zero, List.set_cons_succ] <;> rfl) | rfl) Tryd.underlying24 rfl (by kernel_rfl) ?_; (try simp only [Act.put, List.setIfInBounds_toArray, List.set_cons_zero, List.set_cons_succ])) | ((with_reducible refine gate_eql (ty := 24) rfl ?_); (try (with_reducible refine gate_gd rfl ?_; refine gate_guard (by first | rfl | exact wanted_on rfl rfl rfl (by first | rfl | (simp [*]; done) | fail) | fail) ?_; dsimp only)); refine eql24 rfl rfl rfl rfl true (by first | exact c41b0 | (simpa using c41b0) | exact c46b0 | (simpa using c46b0) | exact c69b0 | (simpa using c69b0)) ?_; (try simp only [Act.put, List.setIfInBounds_toArray, List.set_cons_zero, List.set_cons_succ])) | ((with_reducible refine gate_eql (ty := 24) rfl ?_); (try (with_reducible refine gate_gd rfl ?_; refine gate_guard (by first | rfl | exact wanted_on rfl rfl rfl (by first | rfl | (simp [*]; done) | fail) | fail) ?_; dsimp only)); refine eql24 rfl rfl rfl rfl false (by first | exact c41b0 | (simpa using c41b0) | exact c46b0 | (simpa using c46b0) | exact c69b0 | (simpa using c69b0)) ?_; (try simp only [Act.put, List.setIfInBounds_toArray, List.set_cons_zero, List.set_cons_succ])) | go_in)
        go_meet
        case rel => exact ⟨_, (false), (by first | rfl | (simp; done) | (simp [*]; done)), H', ⟨by have := HJ1.out; first | omega | exact Nat.le_refl _⟩, ⟨by (with_reducible repeat (first | refine blk_drewN ?_ _ | refine blk_drew ?_ | refine blk_alloc ?_ _)); exact BK130.out⟩, ⟨by (with_reducible repeat (first | refine blk_drewN ?_ _ | refine blk_drew ?_ | refine blk_alloc ?_ _)); exact BK131.out⟩, ⟨by repeat (first | (with_reducible first | exact HB.out | apply below_alloc | apply pw_below_drewN | apply below_drew1 | refine below_set ?_ GE130.out | refine below_set ?_ GE131.out) | exact HB.out)⟩⟩
     ·rw [if_neg c67] at H
      have c67b0 : (a0_0 == 0) = false := beq_eq_false_iff_ne.mpr c67
      have c67b1 : (a0_0 != 0) = true := bne_iff_ne.mpr c67
      by_cases c85 : a0_0 = 2
      ·rw [if_pos c85] at H
       have c85b0 : (a0_0 == 2) = true := beq_iff_eq.mpr c85
       have c85b1 : (a0_0 != 2) = false := bne_eq_false_iff_eq.mpr c85
       clear c85
       have H' := Aside0.mk H
       clear H
       have hnb86 := NB130_131.out
       have hnc86 := NB131_130.out
       obtain ⟨hcz87_0, hcz87_1, hcz87_2, hcz87_3, hcz87_4, hcz87_5, hcz87_6, hcz87_7, hcz87_8, hcz87_9, hcz87_10, hcz87_11, hcz87_12, hcz87_13, hcz87_14, hcz87_15⟩ := cells16 BK130.out
       obtain ⟨hfz87_0, hfz87_1, hfz87_2, hfz87_3, hfz87_4, hfz87_5, hfz87_6, hfz87_7, hfz87_8, hfz87_9, hfz87_10, hfz87_11, hfz87_12, hfz87_13, hfz87_14, hfz87_15⟩ := frozen16 BK130.out
       go_wp2_with (first | ((with_reducible refine gate_st (ty := 24) rfl ?_); (try (with_reducible refine gate_gd rfl ?_; refine gate_guard (by first | rfl | exact wanted_on rfl rfl rfl (by first | rfl | (simp [*]; done) | fail) | fail) ?_; dsimp only)); refine storeC16 rfl rfl rfl rfl rfl (by repeat (first | (with_reducible apply blk_far; case hp => assumption) | (with_reducible apply blk_set) | (with_reducible refine blk_drewN ?_ _) | (with_reducible refine blk_drew ?_) | (with_reducible refine blk_alloc ?_ _) | (first | with_reducible exact BK130.out | with_reducible exact BK131.out))) (by first | (simp only [List.setIfInBounds_toArray, List.set_cons_zero, List.set_cons_succ] <;> rfl) | rfl) (by kernel_rfl) rfl ?_) | ((with_reducible refine gate_ld (ty := 24) rfl ?_); (try (with_reducible refine gate_gd rfl ?_; refine gate_guard (by first | rfl | exact wanted_on rfl rfl rfl (by first | rfl | (simp [*]; done) | fail) | fail) ?_; dsimp only)); refine load_st rfl rfl rfl (by repeat (first | (with_reducible apply blk_far; case hp => assumption) | (with_reducible apply blk_set) | (with_reducible refine blk_drewN ?_ _) | (with_reducible refine blk_drew ?_) | (with_reducible refine blk_alloc ?_ _) | (first | with_reducible exact BK130.out | with_reducible exact BK131.out))) (by first | (simp only [List.setIfInBounds_toArray, List.set_cons_zero, List.set_cons_succ] <;> rfl) | rfl) Tryd.underlying24 rfl (by kernel_rfl) ?_; (try simp only [Act.put, List.setIfInBounds_toArray, List.set_cons_zero, List.set_cons_succ])) | ((with_reducible refine gate_eql (ty := 24) rfl ?_); (try (with_reducible refine gate_gd rfl ?_; refine gate_guard (by first | rfl | exact wanted_on rfl rfl rfl (by first | rfl | (simp [*]; done) | fail) | fail) ?_; dsimp only)); refine eql24 rfl rfl rfl rfl true (by first | exact c41b0 | (simpa using c41b0) | exact c46b0 | (simpa using c46b0) | exact c69b0 | (simpa using c69b0)) ?_; (try simp only [Act.put, List.setIfInBounds_toArray, List.set_cons_zero, List.set_cons_succ])) | ((with_reducible refine gate_eql (ty := 24) rfl ?_); (try (with_reducible refine gate_gd rfl ?_; refine gate_guard (by first | rfl | exact wanted_on rfl rfl rfl (by first | rfl | (simp [*]; done) | fail) | fail) ?_; dsimp only)); refine eql24 rfl rfl rfl rfl false (by first | exact c41b0 | (simpa using c41b0) | exact c46b0 | (simpa using c46b0) | exact c69b0 | (simpa using c69b0)) ?_; (try simp only [Act.put, List.setIfInBounds_toArray, List.set_cons_zero, List.set_cons_succ])) | go_in)
       go_meet
       case rel => exact ⟨_, (x4_1), (by first | rfl | (simp; done) | (simp [*]; done)), H', ⟨by have := HJ1.out; first | omega | exact Nat.le_refl _⟩, ⟨by (with_reducible repeat (first | refine blk_drewN ?_ _ | refine blk_drew ?_ | refine blk_alloc ?_ _)); exact BK130.out⟩, ⟨by (with_reducible repeat (first | refine blk_drewN ?_ _ | refine blk_drew ?_ | refine blk_alloc ?_ _)); exact BK131.out⟩, ⟨by repeat (first | (with_reducible first | exact HB.out | apply below_alloc | apply pw_below_drewN | apply below_drew1 | refine below_set ?_ GE130.out | refine below_set ?_ GE131.out) | exact HB.out)⟩⟩
      ·rw [if_neg c85] at H
       have c85b0 : (a0_0 == 2) = false := beq_eq_false_iff_ne.mpr c85
       have c85b1 : (a0_0 != 2) = true := bne_iff_ne.mpr c85
       have H' := Aside0.mk H
       clear H
       have hnb88 := NB130_131.out
       have hnc88 := NB131_130.out
       obtain ⟨hcz89_0, hcz89_1, hcz89_2, hcz89_3, hcz89_4, hcz89_5, hcz89_6, hcz89_7, hcz89_8, hcz89_9, hcz89_10, hcz89_11, hcz89_12, hcz89_13, hcz89_14, hcz89_15⟩ := cells16 BK130.out
       obtain ⟨hfz89_0, hfz89_1, hfz89_2, hfz89_3, hfz89_4, hfz89_5, hfz89_6, hfz89_7, hfz89_8, hfz89_9, hfz89_10, hfz89_11, hfz89_12, hfz89_13, hfz89_14, hfz89_15⟩ := frozen16 BK130.out
       go_wp2_with (first | ((with_reducible refine gate_st (ty := 24) rfl ?_); (try (with_reducible refine gate_gd rfl ?_; refine gate_guard (by first | rfl | exact wanted_on rfl rfl rfl (by first | rfl | (simp [*]; done) | fail) | fail) ?_; dsimp only)); refine storeC16 rfl rfl rfl rfl rfl (by repeat (first | (with_reducible apply blk_far; case hp => assumption) | (with_reducible apply blk_set) | (with_reducible refine blk_drewN ?_ _) | (with_reducible refine blk_drew ?_) | (with_reducible refine blk_alloc ?_ _) | (first | with_reducible exact BK130.out | with_reducible exact BK131.out))) (by first | (simp only [List.setIfInBounds_toArray, List.set_cons_zero, List.set_cons_succ] <;> rfl) | rfl) (by kernel_rfl) rfl ?_) | ((with_reducible refine gate_ld (ty := 24) rfl ?_); (try (with_reducible refine gate_gd rfl ?_; refine gate_guard (by first | rfl | exact wanted_on rfl rfl rfl (by first | rfl | (simp [*]; done) | fail) | fail) ?_; dsimp only)); refine load_st rfl rfl rfl (by repeat (first | (with_reducible apply blk_far; case hp => assumption) | (with_reducible apply blk_set) | (with_reducible refine blk_drewN ?_ _) | (with_reducible refine blk_drew ?_) | (with_reducible refine blk_alloc ?_ _) | (first | with_reducible exact BK130.out | with_reducible exact BK131.out))) (by first | (simp only [List.setIfInBounds_toArray, List.set_cons_zero, List.set_cons_succ] <;> rfl) | rfl) Tryd.underlying24 rfl (by kernel_rfl) ?_; (try simp only [Act.put, List.setIfInBounds_toArray, List.set_cons_zero, List.set_cons_succ])) | ((with_reducible refine gate_eql (ty := 24) rfl ?_); (try (with_reducible refine gate_gd rfl ?_; refine gate_guard (by first | rfl | exact wanted_on rfl rfl rfl (by first | rfl | (simp [*]; done) | fail) | fail) ?_; dsimp only)); refine eql24 rfl rfl rfl rfl true (by first | exact c41b0 | (simpa using c41b0) | exact c46b0 | (simpa using c46b0) | exact c69b0 | (simpa using c69b0)) ?_; (try simp only [Act.put, List.setIfInBounds_toArray, List.set_cons_zero, List.set_cons_succ])) | ((with_reducible refine gate_eql (ty := 24) rfl ?_); (try (with_reducible refine gate_gd rfl ?_; refine gate_guard (by first | rfl | exact wanted_on rfl rfl rfl (by first | rfl | (simp [*]; done) | fail) | fail) ?_; dsimp only)); refine eql24 rfl rfl rfl rfl false (by first | exact c41b0 | (simpa using c41b0) | exact c46b0 | (simpa using c46b0) | exact c69b0 | (simpa using c69b0)) ?_; (try simp only [Act.put, List.setIfInBounds_toArray, List.set_cons_zero, List.set_cons_succ])) | go_in)
       go_meet
       case rel => exact ⟨_, (false), (by first | rfl | (simp; done) | (simp [*]; done)), H', ⟨by have := HJ1.out; first | omega | exact Nat.le_refl _⟩, ⟨by (with_reducible repeat (first | refine blk_drewN ?_ _ | refine blk_drew ?_ | refine blk_alloc ?_ _)); exact BK130.out⟩, ⟨by (with_reducible repeat (first | refine blk_drewN ?_ _ | refine blk_drew ?_ | refine blk_alloc ?_ _)); exact BK131.out⟩, ⟨by repeat (first | (with_reducible first | exact HB.out | apply below_alloc | apply pw_below_drewN | apply below_drew1 | refine below_set ?_ GE130.out | refine below_set ?_ GE131.out) | exact HB.out)⟩⟩
   case rest =>
    clear HC39
    try clear p2
    try clear c4
    try clear c5
    try clear c6
    try clear c7
    try clear c8
    try clear c40
    try clear c40b0
    try clear c40b1
    try clear c44
    try clear c44b0
    try clear c44b1
    try clear c57
    try clear c57b0
    try clear c57b1
    try clear c58
    try clear c60
    try clear c62
    try clear c62b0
    try clear c62b1
    try clear c63
    try clear c65
    try clear c67
    try clear c67b0
    try clear c67b1
    try clear c68
    try clear c69
    try clear c69b0
    try clear c69b1
    try clear c69b2
    try clear c70
    try clear c73
    try clear c73b0
    try clear c73b1
    try clear c74
    try clear c77
    try clear c80
    try clear c80b0
    try clear c80b1
    try clear c81
    try clear c83
    try clear c85
    try clear c85b0
    try clear c85b1
    try clear c86
    try clear c88
    try clear hcz59_0
    try clear hcz59_1
    try clear hcz59_10
    try clear hcz59_11
    try clear hcz59_12
    try clear hcz59_13
    try clear hcz59_14
    try clear hcz59_15
    try clear hcz59_2
    try clear hcz59_3
    try clear hcz59_4
    try clear hcz59_5
    try clear hcz59_6
    try clear hcz59_7
    try clear hcz59_8
    try clear hcz59_9
    try clear hcz61_0
    try clear hcz61_1
    try clear hcz61_10
    try clear hcz61_11
    try clear hcz61_12
    try clear hcz61_13
    try clear hcz61_14
    try clear hcz61_15
    try clear hcz61_2
    try clear hcz61_3
    try clear hcz61_4
    try clear hcz61_5
    try clear hcz61_6
    try clear hcz61_7
    try clear hcz61_8
    try clear hcz61_9
    try clear hcz64_0
    try clear hcz64_1
    try clear hcz64_10
    try clear hcz64_11
    try clear hcz64_12
    try clear hcz64_13
    try clear hcz64_14
    try clear hcz64_15
    try clear hcz64_2
    try clear hcz64_3
    try clear hcz64_4
    try clear hcz64_5
    try clear hcz64_6
    try clear hcz64_7
    try clear hcz64_8
    try clear hcz64_9
    try clear hcz66_0
    try clear hcz66_1
    try clear hcz66_10
    try clear hcz66_11
    try clear hcz66_12
    try clear hcz66_13
    try clear hcz66_14
    try clear hcz66_15
    try clear hcz66_2
    try clear hcz66_3
    try clear hcz66_4
    try clear hcz66_5
    try clear hcz66_6
    try clear hcz66_7
    try clear hcz66_8
    try clear hcz66_9
    try clear hcz71_0
    try clear hcz71_1
    try clear hcz71_10
    try clear hcz71_11
    try clear hcz71_12
    try clear hcz71_13
    try clear hcz71_14
    try clear hcz71_15
    try clear hcz71_2
    try clear hcz71_3
    try clear hcz71_4
    try clear hcz71_5
    try clear hcz71_6
    try clear hcz71_7
    try clear hcz71_8
    try clear hcz71_9
    try clear hcz72_0
    try clear hcz72_1
    try clear hcz72_10
    try clear hcz72_11
    try clear hcz72_12
    try clear hcz72_13
    try clear hcz72_14
    try clear hcz72_15
    try clear hcz72_2
    try clear hcz72_3
    try clear hcz72_4
    try clear hcz72_5
    try clear hcz72_6
    try clear hcz72_7
    try clear hcz72_8
    try clear hcz72_9
    try clear hcz75_0
    try clear hcz75_1
    try clear hcz75_10
    try clear hcz75_11
    try clear hcz75_12
    try clear hcz75_13
    try clear hcz75_14
    try clear hcz75_15
    try clear hcz75_2
    try clear hcz75_3
    try clear hcz75_4
    try clear hcz75_5
    try clear hcz75_6
    try clear hcz75_7
    try clear hcz75_8
    try clear hcz75_9
    try clear hcz76_0
    try clear hcz76_1
    try clear hcz76_10
    try clear hcz76_11
    try clear hcz76_12
    try clear hcz76_13
    try clear hcz76_14
    try clear hcz76_15
    try clear hcz76_2
    try clear hcz76_3
    try clear hcz76_4
    try clear hcz76_5
    try clear hcz76_6
    try clear hcz76_7
    try clear hcz76_8
    try clear hcz76_9
    try clear hcz78_0
    try clear hcz78_1
    try clear hcz78_10
    try clear hcz78_11
    try clear hcz78_12
    try clear hcz78_13
    try clear hcz78_14
    try clear hcz78_15
    try clear hcz78_2
    try clear hcz78_3
    try clear hcz78_4
    try clear hcz78_5
    try clear hcz78_6
    try clear hcz78_7
    try clear hcz78_8
    try clear hcz78_9
    try clear hcz79_0
    try clear hcz79_1
    try clear hcz79_10
    try clear hcz79_11
    try clear hcz79_12
    try clear hcz79_13
    try clear hcz79_14
    try clear hcz79_15
    try clear hcz79_2
    try clear hcz79_3
    try clear hcz79_4
    try clear hcz79_5
    try clear hcz79_6
    try clear hcz79_7
    try clear hcz79_8
    try clear hcz79_9
    try clear hcz82_0
    try clear hcz82_1
    try clear hcz82_10
    try clear hcz82_11
    try clear hcz82_12
    try clear hcz82_13
    try clear hcz82_14
    try clear hcz82_15
    try clear hcz82_2
    try clear hcz82_3
    try clear hcz82_4
    try clear hcz82_5
    try clear hcz82_6
    try clear hcz82_7
    try clear hcz82_8
    try clear hcz82_9
    try clear hcz84_0
    try clear hcz84_1
    try clear hcz84_10
    try clear hcz84_11
    try clear hcz84_12
    try clear hcz84_13
    try clear hcz84_14
    try clear hcz84_15
    try clear hcz84_2
    try clear hcz84_3
    try clear hcz84_4
    try clear hcz84_5
    try clear hcz84_6
    try clear hcz84_7
    try clear hcz84_8
    try clear hcz84_9
    try clear hcz87_0
    try clear hcz87_1
    try clear hcz87_10
    try clear hcz87_11
    try clear hcz87_12
    try clear hcz87_13
    try clear hcz87_14
    try clear hcz87_15
    try clear hcz87_2
    try clear hcz87_3
    try clear hcz87_4
    try clear hcz87_5
    try clear hcz87_6
    try clear hcz87_7
    try clear hcz87_8
    try clear hcz87_9
    try clear hcz89_0
    try clear hcz89_1
    try clear hcz89_10
    try clear hcz89_11
    try clear hcz89_12
    try clear hcz89_13
    try clear hcz89_14
    try clear hcz89_15
    try clear hcz89_2
    try clear hcz89_3
    try clear hcz89_4
    try clear hcz89_5
    try clear hcz89_6
    try clear hcz89_7
    try clear hcz89_8
    try clear hcz89_9
    try clear hfz59_0
    try clear hfz59_1
    try clear hfz59_10
    try clear hfz59_11
    try clear hfz59_12
    try clear hfz59_13
    try clear hfz59_14
    try clear hfz59_15
    try clear hfz59_2
    try clear hfz59_3
    try clear hfz59_4
    try clear hfz59_5
    try clear hfz59_6
    try clear hfz59_7
    try clear hfz59_8
    try clear hfz59_9
    try clear hfz61_0
    try clear hfz61_1
    try clear hfz61_10
    try clear hfz61_11
    try clear hfz61_12
    try clear hfz61_13
    try clear hfz61_14
    try clear hfz61_15
    try clear hfz61_2
    try clear hfz61_3
    try clear hfz61_4
    try clear hfz61_5
    try clear hfz61_6
    try clear hfz61_7
    try clear hfz61_8
    try clear hfz61_9
    try clear hfz64_0
    try clear hfz64_1
    try clear hfz64_10
    try clear hfz64_11
    try clear hfz64_12
    try clear hfz64_13
    try clear hfz64_14
    try clear hfz64_15
    try clear hfz64_2
    try clear hfz64_3
    try clear hfz64_4
    try clear hfz64_5
    try clear hfz64_6
    try clear hfz64_7
    try clear hfz64_8
    try clear hfz64_9
    try clear hfz66_0
    try clear hfz66_1
    try clear hfz66_10
    try clear hfz66_11
    try clear hfz66_12
    try clear hfz66_13
    try clear hfz66_14
    try clear hfz66_15
    try clear hfz66_2
    try clear hfz66_3
    try clear hfz66_4
    try clear hfz66_5
    try clear hfz66_6
    try clear hfz66_7
    try clear hfz66_8
    try clear hfz66_9
    try clear hfz71_0
    try clear hfz71_1
    try clear hfz71_10
    try clear hfz71_11
    try clear hfz71_12
    try clear hfz71_13
    try clear hfz71_14
    try clear hfz71_15
    try clear hfz71_2
    try clear hfz71_3
    try clear hfz71_4
    try clear hfz71_5
    try clear hfz71_6
    try clear hfz71_7
    try clear hfz71_8
    try clear hfz71_9
    try clear hfz72_0
    try clear hfz72_1
    try clear hfz72_10
    try clear hfz72_11
    try clear hfz72_12
    try clear hfz72_13
    try clear hfz72_14
    try clear hfz72_15
    try clear hfz72_2
    try clear hfz72_3
    try clear hfz72_4
    try clear hfz72_5
    try clear hfz72_6
    try clear hfz72_7
    try clear hfz72_8
    try clear hfz72_9
    try clear hfz75_0
    try clear hfz75_1
    try clear hfz75_10
    try clear hfz75_11
    try clear hfz75_12
    try clear hfz75_13
    try clear hfz75_14
    try clear hfz75_15
    try clear hfz75_2
    try clear hfz75_3
    try clear hfz75_4
    try clear hfz75_5
    try clear hfz75_6
    try clear hfz75_7
    try clear hfz75_8
    try clear hfz75_9
    try clear hfz76_0
    try clear hfz76_1
    try clear hfz76_10
    try clear hfz76_11
    try clear hfz76_12
    try clear hfz76_13
    try clear hfz76_14
    try clear hfz76_15
    try clear hfz76_2
    try clear hfz76_3
    try clear hfz76_4
    try clear hfz76_5
    try clear hfz76_6
    try clear hfz76_7
    try clear hfz76_8
    try clear hfz76_9
    try clear hfz78_0
    try clear hfz78_1
    try clear hfz78_10
    try clear hfz78_11
    try clear hfz78_12
    try clear hfz78_13
    try clear hfz78_14
    try clear hfz78_15
    try clear hfz78_2
    try clear hfz78_3
    try clear hfz78_4
    try clear hfz78_5
    try clear hfz78_6
    try clear hfz78_7
    try clear hfz78_8
    try clear hfz78_9
    try clear hfz79_0
    try clear hfz79_1
    try clear hfz79_10
    try clear hfz79_11
    try clear hfz79_12
    try clear hfz79_13
    try clear hfz79_14
    try clear hfz79_15
    try clear hfz79_2
    try clear hfz79_3
    try clear hfz79_4
    try clear hfz79_5
    try clear hfz79_6
    try clear hfz79_7
    try clear hfz79_8
    try clear hfz79_9
    try clear hfz82_0
    try clear hfz82_1
    try clear hfz82_10
    try clear hfz82_11
    try clear hfz82_12
    try clear hfz82_13
    try clear hfz82_14
    try clear hfz82_15
    try clear hfz82_2
    try clear hfz82_3
    try clear hfz82_4
    try clear hfz82_5
    try clear hfz82_6
    try clear hfz82_7
    try clear hfz82_8
    try clear hfz82_9
    try clear hfz84_0
    try clear hfz84_1
    try clear hfz84_10
    try clear hfz84_11
    try clear hfz84_12
    try clear hfz84_13
    try clear hfz84_14
    try clear hfz84_15
    try clear hfz84_2
    try clear hfz84_3
    try clear hfz84_4
    try clear hfz84_5
    try clear hfz84_6
    try clear hfz84_7
    try clear hfz84_8
    try clear hfz84_9
    try clear hfz87_0
    try clear hfz87_1
    try clear hfz87_10
    try clear hfz87_11
    try clear hfz87_12
    try clear hfz87_13
    try clear hfz87_14
    try clear hfz87_15
    try clear hfz87_2
    try clear hfz87_3
    try clear hfz87_4
    try clear hfz87_5
    try clear hfz87_6
    try clear hfz87_7
    try clear hfz87_8
    try clear hfz87_9
    try clear hfz89_0
    try clear hfz89_1
    try clear hfz89_10
    try clear hfz89_11
    try clear hfz89_12
    try clear hfz89_13
    try clear hfz89_14
    try clear hfz89_15
    try clear hfz89_2
    try clear hfz89_3
    try clear hfz89_4
    try clear hfz89_5
    try clear hfz89_6
    try clear hfz89_7
    try clear hfz89_8
    try clear hfz89_9
    obtain ⟨kq, x99_38, rfl, HA, HJ38, BK130, BK131, HB⟩ := hcut
    cases kq with
    | zero => exact absurd HA.out (by simp [gangwayref09_Check.j1])
    | succ kj38 =>
     have H := HA.out
     clear HA
     simp only [gangwayref09_Check.j1] at H
     by_cases c90 : x99_38 = true
     ·subst c90
      have H1 : (some 0) = some r := by rw [if_pos rfl] at H; exact H
      clear H
      have H := H1
      clear H1
      obtain rfl := Option.some.inj H
      go_wp2_with (first | ((with_reducible refine gate_st (ty := 24) rfl ?_); (try (with_reducible refine gate_gd rfl ?_; refine gate_guard (by first | rfl | exact wanted_on rfl rfl rfl (by first | rfl | (simp [*]; done) | fail) | fail) ?_; dsimp only)); refine storeC16 rfl rfl rfl rfl rfl (by repeat (first | (with_reducible apply blk_far; case hp => assumption) | (with_reducible apply blk_set) | (with_reducible refine blk_drewN ?_ _) | (with_reducible refine blk_drew ?_) | (with_reducible refine blk_alloc ?_ _) | (first | with_reducible exact BK130.out | with_reducible exact BK131.out))) (by first | (simp only [List.setIfInBounds_toArray, List.set_cons_zero, List.set_cons_succ] <;> rfl) | rfl) (by kernel_rfl) rfl ?_) | ((with_reducible refine gate_ld (ty := 24) rfl ?_); (try (with_reducible refine gate_gd rfl ?_; refine gate_guard (by first | rfl | exact wanted_on rfl rfl rfl (by first | rfl | (simp [*]; done) | fail) | fail) ?_; dsimp only)); refine load_st rfl rfl rfl (by repeat (first | (with_reducible apply blk_far; case hp => assumption) | (with_reducible apply blk_set) | (with_reducible refine blk_drewN ?_ _) | (with_reducible refine blk_drew ?_) | (with_reducible refine blk_alloc ?_ _) | (first | with_reducible exact BK130.out | with_reducible exact BK131.out))) (by first | (simp only [List.setIfInBounds_toArray, List.set_cons_zero, List.set_cons_succ] <;> rfl) | rfl) Tryd.underlying24 rfl (by kernel_rfl) ?_; (try simp only [Act.put, List.setIfInBounds_toArray, List.set_cons_zero, List.set_cons_succ])) | ((with_reducible refine gate_eql (ty := 24) rfl ?_); (try (with_reducible refine gate_gd rfl ?_; refine gate_guard (by first | rfl | exact wanted_on rfl rfl rfl (by first | rfl | (simp [*]; done) | fail) | fail) ?_; dsimp only)); refine eql24 rfl rfl rfl rfl true (by first | exact c41b0 | (simpa using c41b0) | exact c46b0 | (simpa using c46b0) | exact c69b0 | (simpa using c69b0)) ?_; (try simp only [Act.put, List.setIfInBounds_toArray, List.set_cons_zero, List.set_cons_succ])) | ((with_reducible refine gate_eql (ty := 24) rfl ?_); (try (with_reducible refine gate_gd rfl ?_; refine gate_guard (by first | rfl | exact wanted_on rfl rfl rfl (by first | rfl | (simp [*]; done) | fail) | fail) ?_; dsimp only)); refine eql24 rfl rfl rfl rfl false (by first | exact c41b0 | (simpa using c41b0) | exact c46b0 | (simpa using c46b0) | exact c69b0 | (simpa using c69b0)) ?_; (try simp only [Act.put, List.setIfInBounds_toArray, List.set_cons_zero, List.set_cons_succ])) | go_in)
      go_ret
      exact ⟨by first | rfl | (simp [errW_none, errW_some] <;> rfl) | (simp [*, errW_none, errW_some] <;> rfl) | (simp [*, IntKind.wrap_u32]; done) | (simp_all [IntKind.wrap_u32]; done), by repeat (first | (with_reducible first | exact HB.out | apply below_alloc | apply pw_below_drewN | apply below_drew1 | refine below_set ?_ GE130.out | refine below_set ?_ GE131.out) | exact HB.out)⟩
     ·replace c90 := Bool.eq_false_iff.mpr c90
      subst c90
      have H1 : (some 91) = some r := by rw [if_neg (show ¬ (false = true) by decide)] at H; exact H
      clear H
      have H := H1
      clear H1
      obtain rfl := Option.some.inj H
      go_wp2_with (first | ((with_reducible refine gate_st (ty := 24) rfl ?_); (try (with_reducible refine gate_gd rfl ?_; refine gate_guard (by first | rfl | exact wanted_on rfl rfl rfl (by first | rfl | (simp [*]; done) | fail) | fail) ?_; dsimp only)); refine storeC16 rfl rfl rfl rfl rfl (by repeat (first | (with_reducible apply blk_far; case hp => assumption) | (with_reducible apply blk_set) | (with_reducible refine blk_drewN ?_ _) | (with_reducible refine blk_drew ?_) | (with_reducible refine blk_alloc ?_ _) | (first | with_reducible exact BK130.out | with_reducible exact BK131.out))) (by first | (simp only [List.setIfInBounds_toArray, List.set_cons_zero, List.set_cons_succ] <;> rfl) | rfl) (by kernel_rfl) rfl ?_) | ((with_reducible refine gate_ld (ty := 24) rfl ?_); (try (with_reducible refine gate_gd rfl ?_; refine gate_guard (by first | rfl | exact wanted_on rfl rfl rfl (by first | rfl | (simp [*]; done) | fail) | fail) ?_; dsimp only)); refine load_st rfl rfl rfl (by repeat (first | (with_reducible apply blk_far; case hp => assumption) | (with_reducible apply blk_set) | (with_reducible refine blk_drewN ?_ _) | (with_reducible refine blk_drew ?_) | (with_reducible refine blk_alloc ?_ _) | (first | with_reducible exact BK130.out | with_reducible exact BK131.out))) (by first | (simp only [List.setIfInBounds_toArray, List.set_cons_zero, List.set_cons_succ] <;> rfl) | rfl) Tryd.underlying24 rfl (by kernel_rfl) ?_; (try simp only [Act.put, List.setIfInBounds_toArray, List.set_cons_zero, List.set_cons_succ])) | ((with_reducible refine gate_eql (ty := 24) rfl ?_); (try (with_reducible refine gate_gd rfl ?_; refine gate_guard (by first | rfl | exact wanted_on rfl rfl rfl (by first | rfl | (simp [*]; done) | fail) | fail) ?_; dsimp only)); refine eql24 rfl rfl rfl rfl true (by first | exact c41b0 | (simpa using c41b0) | exact c46b0 | (simpa using c46b0) | exact c69b0 | (simpa using c69b0)) ?_; (try simp only [Act.put, List.setIfInBounds_toArray, List.set_cons_zero, List.set_cons_succ])) | ((with_reducible refine gate_eql (ty := 24) rfl ?_); (try (with_reducible refine gate_gd rfl ?_; refine gate_guard (by first | rfl | exact wanted_on rfl rfl rfl (by first | rfl | (simp [*]; done) | fail) | fail) ?_; dsimp only)); refine eql24 rfl rfl rfl rfl false (by first | exact c41b0 | (simpa using c41b0) | exact c46b0 | (simpa using c46b0) | exact c69b0 | (simpa using c69b0)) ?_; (try simp only [Act.put, List.setIfInBounds_toArray, List.set_cons_zero, List.set_cons_succ])) | go_in)
      go_ret
      exact ⟨by first | rfl | (simp [errW_none, errW_some] <;> rfl) | (simp [*, errW_none, errW_some] <;> rfl) | (simp [*, IntKind.wrap_u32]; done) | (simp_all [IntKind.wrap_u32]; done), by repeat (first | (with_reducible first | exact HB.out | apply below_alloc | apply pw_below_drewN | apply below_drew1 | refine below_set ?_ GE130.out | refine below_set ?_ GE131.out) | exact HB.out)⟩

end Go.Proofs.YtbfjlhjfpmgplaaDoor.P
