-- slim
-- Written by wip/hprint.py (this session's program) through the kit's print program; hand contracts are marked 'by hand'.
import Derived.Test.YtbfjlhjfpmgplaaDoorAbb
import Derived.Test.YtbfjlhjfpmgplaaDoorRow
import Derived.Test.YtbfjlhjfpmgplaaDoorPx0
import Derived.Test.YtbfjlhjfpmgplaaDoorPx1
import Derived.Test.YtbfjlhjfpmgplaaDoorPx15
namespace Go.Proofs.YtbfjlhjfpmgplaaDoor.P
open Go.RowKit Go.Proofs.YtbfjlhjfpmgplaaDoorW.PrintWords Go.Proofs.YtbfjlhjfpmgplaaDoorW.PrintLast Go.Proofs.YtbfjlhjfpmgplaaDoorW.PrintMore
attribute [local go_sem] max2_int min2_int max_two min_two max_three min_three max_four min_four   -- for this text's walks alone
set_option linter.unusedVariables false
set_option linter.unusedSimpArgs false

attribute [local go_sem high] eqA24
/-! ### gangwayref09_Check: function 12 -/
mutual
def gangwayref09_Check.j0 : Nat → Bool → Int → Bool → Bool → Bool → Bool → Bool → Bool → Int → Int → Int → Int → Int → Int → Int → Int → Int → Int → Bool → Bool → Bool → Bool → Bool → Bool → Int → Int → Int → Int → Int → Int → Int → Int → Int → Option (Int)
 | 0, _, _, _, _, _, _, _, _, _, _, _, _, _, _, _, _, _, _, _, _, _, _, _, _, _, _, _, _, _, _, _, _, _ => none
 | k + 1, x4, x367000, x367001, x367002, x367003, x367004, x367005, x367006, x367007, x367008, x367009, x367010, x367011, x367012, x367013, x367014, x367015, x368000, x368001, x368002, x368003, x368004, x368005, x368006, x368007, x368008, x368009, x368010, x368011, x368012, x368013, x368014, x368015 => if x367000 = 128 then (if (x367000 == 128 && (!x367001 && (!x367002 && (!x367003 && (!x367004 && (!x367005 && (!x367006 && (x367007 == 0 && (x367008 == 0 && (x367009 == 0 && (x367010 == 0 && (x367011 == 0 && (x367012 == 0 && (x367013 == 0 && (x367014 == 0 && (x367015 == 0)))))))))))))))) = true then (gangwayref09_Check.j1 k true) else (if x367000 = 0 then (if x4 = true then (if (x367000 == x368000 && (x367001 == x368001 && (x367002 == x368002 && (x367003 == x368003 && (x367004 == x368004 && (x367005 == x368005 && (x367006 == x368006 && (x367007 == x368007 && (x367008 == x368008 && (x367009 == x368009 && (x367010 == x368010 && (x367011 == x368011 && (x367012 == x368012 && (x367013 == x368013 && (x367014 == x368014 && (x367015 == x368015)))))))))))))))) = true then (gangwayref09_Check.j1 k true) else (if x367000 = 2 then (gangwayref09_Check.j1 k x4) else (gangwayref09_Check.j1 k false))) else (if x367000 = 2 then (gangwayref09_Check.j1 k x4) else (gangwayref09_Check.j1 k false))) else (if x367000 = 2 then (gangwayref09_Check.j1 k x4) else (gangwayref09_Check.j1 k false)))) else (if x367000 = 0 then (if x4 = true then (if (x367000 == x368000 && (x367001 == x368001 && (x367002 == x368002 && (x367003 == x368003 && (x367004 == x368004 && (x367005 == x368005 && (x367006 == x368006 && (x367007 == x368007 && (x367008 == x368008 && (x367009 == x368009 && (x367010 == x368010 && (x367011 == x368011 && (x367012 == x368012 && (x367013 == x368013 && (x367014 == x368014 && (x367015 == x368015)))))))))))))))) = true then (gangwayref09_Check.j1 k true) else (if x367000 = 2 then (gangwayref09_Check.j1 k x4) else (gangwayref09_Check.j1 k false))) else (if x367000 = 2 then (gangwayref09_Check.j1 k x4) else (gangwayref09_Check.j1 k false))) else (if x367000 = 2 then (gangwayref09_Check.j1 k x4) else (gangwayref09_Check.j1 k false)))
def gangwayref09_Check.j1 : Nat → Bool → Option (Int)
 | 0, _ => none
 | k + 1, x99 => if x99 = true then (some 0) else (some 91)
end
def gangwayref09_Check.f (k : Nat) (a0_0 : Int) (a0_1 : Bool) (a0_2 : Bool) (a0_3 : Bool) (a0_4 : Bool) (a0_5 : Bool) (a0_6 : Bool) (a0_7 : Int) (a0_8 : Int) (a0_9 : Int) (a0_10 : Int) (a0_11 : Int) (a0_12 : Int) (a0_13 : Int) (a0_14 : Int) (a0_15 : Int) : Option (Int) := if a0_7 ≥ 0 then (if a0_7 ≤ 3 then (if a0_9 ≥ 0 then (if a0_9 ≤ 4294967295 then ((gangwayref09_word.f a0_11).bind fun t368 => (if t368 = true then ((gangwayref09_word.f a0_12).bind fun t369 => (if t369 = true then ((gangwayref09_word.f a0_13).bind fun t370 => (if t370 = true then ((gangwayref09_word.f a0_14).bind fun t371 => (if t371 = true then ((gangwayref09_word.f a0_15).bind fun t372 => (gangwayref09_Check.j0 k t372 a0_0 a0_1 a0_2 a0_3 a0_4 a0_5 a0_6 a0_7 a0_8 a0_9 a0_10 a0_11 a0_12 a0_13 a0_14 a0_15 a0_0 a0_1 false false false false a0_6 0 a0_8 a0_9 a0_10 a0_11 a0_12 a0_13 a0_14 a0_15)) else (gangwayref09_Check.j0 k false a0_0 a0_1 a0_2 a0_3 a0_4 a0_5 a0_6 a0_7 a0_8 a0_9 a0_10 a0_11 a0_12 a0_13 a0_14 a0_15 a0_0 a0_1 false false false false a0_6 0 a0_8 a0_9 a0_10 a0_11 a0_12 a0_13 a0_14 a0_15))) else (gangwayref09_Check.j0 k false a0_0 a0_1 a0_2 a0_3 a0_4 a0_5 a0_6 a0_7 a0_8 a0_9 a0_10 a0_11 a0_12 a0_13 a0_14 a0_15 a0_0 a0_1 false false false false a0_6 0 a0_8 a0_9 a0_10 a0_11 a0_12 a0_13 a0_14 a0_15))) else (gangwayref09_Check.j0 k false a0_0 a0_1 a0_2 a0_3 a0_4 a0_5 a0_6 a0_7 a0_8 a0_9 a0_10 a0_11 a0_12 a0_13 a0_14 a0_15 a0_0 a0_1 false false false false a0_6 0 a0_8 a0_9 a0_10 a0_11 a0_12 a0_13 a0_14 a0_15))) else (gangwayref09_Check.j0 k false a0_0 a0_1 a0_2 a0_3 a0_4 a0_5 a0_6 a0_7 a0_8 a0_9 a0_10 a0_11 a0_12 a0_13 a0_14 a0_15 a0_0 a0_1 false false false false a0_6 0 a0_8 a0_9 a0_10 a0_11 a0_12 a0_13 a0_14 a0_15))) else (gangwayref09_Check.j0 k false a0_0 a0_1 a0_2 a0_3 a0_4 a0_5 a0_6 a0_7 a0_8 a0_9 a0_10 a0_11 a0_12 a0_13 a0_14 a0_15 a0_0 a0_1 false false false false a0_6 0 a0_8 a0_9 a0_10 a0_11 a0_12 a0_13 a0_14 a0_15)) else (gangwayref09_Check.j0 k false a0_0 a0_1 a0_2 a0_3 a0_4 a0_5 a0_6 a0_7 a0_8 a0_9 a0_10 a0_11 a0_12 a0_13 a0_14 a0_15 a0_0 a0_1 false false false false a0_6 0 a0_8 a0_9 a0_10 a0_11 a0_12 a0_13 a0_14 a0_15)) else (gangwayref09_Check.j0 k false a0_0 a0_1 a0_2 a0_3 a0_4 a0_5 a0_6 a0_7 a0_8 a0_9 a0_10 a0_11 a0_12 a0_13 a0_14 a0_15 a0_0 a0_1 false false false false a0_6 0 a0_8 a0_9 a0_10 a0_11 a0_12 a0_13 a0_14 a0_15)) else (gangwayref09_Check.j0 k false a0_0 a0_1 a0_2 a0_3 a0_4 a0_5 a0_6 a0_7 a0_8 a0_9 a0_10 a0_11 a0_12 a0_13 a0_14 a0_15 a0_0 a0_1 false false false false a0_6 0 a0_8 a0_9 a0_10 a0_11 a0_12 a0_13 a0_14 a0_15)
theorem gangwayref09_Check.mono_l : ∀ k, (∀ y0 y1 y2 y3 y4 y5 y6 y7 y8 y9 y10 y11 y12 y13 y14 y15 y16 y17 y18 y19 y20 y21 y22 y23 y24 y25 y26 y27 y28 y29 y30 y31 y32, LeO (gangwayref09_Check.j0 k y0 y1 y2 y3 y4 y5 y6 y7 y8 y9 y10 y11 y12 y13 y14 y15 y16 y17 y18 y19 y20 y21 y22 y23 y24 y25 y26 y27 y28 y29 y30 y31 y32) (gangwayref09_Check.j0 (k + 1) y0 y1 y2 y3 y4 y5 y6 y7 y8 y9 y10 y11 y12 y13 y14 y15 y16 y17 y18 y19 y20 y21 y22 y23 y24 y25 y26 y27 y28 y29 y30 y31 y32)) ∧ (∀ y0, LeO (gangwayref09_Check.j1 k y0) (gangwayref09_Check.j1 (k + 1) y0))
 | 0 => ⟨fun _ _ _ _ _ _ _ _ _ _ _ _ _ _ _ _ _ _ _ _ _ _ _ _ _ _ _ _ _ _ _ _ _ r h => by simp [gangwayref09_Check.j0] at h, fun _ r h => by simp [gangwayref09_Check.j1] at h⟩
 | k + 1 => by
  obtain ⟨ih0, ih1⟩ := gangwayref09_Check.mono_l k
  refine ⟨?_, ?_⟩
  ·intro y0 y1 y2 y3 y4 y5 y6 y7 y8 y9 y10 y11 y12 y13 y14 y15 y16 y17 y18 y19 y20 y21 y22 y23 y24 y25 y26 y27 y28 y29 y30 y31 y32
   unfold gangwayref09_Check.j0
   repeat' first
   | (with_reducible exact ih0 _ _ _ _ _ _ _ _ _ _ _ _ _ _ _ _ _ _ _ _ _ _ _ _ _ _ _ _ _ _ _ _ _)
   | (with_reducible exact ih1 _)
   | (with_reducible exact LeO.refl _)
   | (with_reducible exact LeO.none _)
   | (with_reducible refine LeO.ite ?_ ?_)
   | (with_reducible refine LeO.bind ?_ (fun _ => ?_))
   | exact ih0 _ _ _ _ _ _ _ _ _ _ _ _ _ _ _ _ _ _ _ _ _ _ _ _ _ _ _ _ _ _ _ _ _
   | exact ih1 _
   | exact LeO.none _
   | refine LeO.ite ?_ ?_
   | refine LeO.bind ?_ (fun _ => ?_)
  ·intro y0
   unfold gangwayref09_Check.j1
   repeat' first
   | (with_reducible exact ih0 _ _ _ _ _ _ _ _ _ _ _ _ _ _ _ _ _ _ _ _ _ _ _ _ _ _ _ _ _ _ _ _ _)
   | (with_reducible exact ih1 _)
   | (with_reducible exact LeO.refl _)
   | (with_reducible exact LeO.none _)
   | (with_reducible refine LeO.ite ?_ ?_)
   | (with_reducible refine LeO.bind ?_ (fun _ => ?_))
   | exact ih0 _ _ _ _ _ _ _ _ _ _ _ _ _ _ _ _ _ _ _ _ _ _ _ _ _ _ _ _ _ _ _ _ _
   | exact ih1 _
   | exact LeO.none _
   | refine LeO.ite ?_ ?_
   | refine LeO.bind ?_ (fun _ => ?_)
theorem gangwayref09_Check.mono : ∀ a0 a1 a2 a3 a4 a5 a6 a7 a8 a9 a10 a11 a12 a13 a14 a15 k, LeO (gangwayref09_Check.f k a0 a1 a2 a3 a4 a5 a6 a7 a8 a9 a10 a11 a12 a13 a14 a15) (gangwayref09_Check.f (k + 1) a0 a1 a2 a3 a4 a5 a6 a7 a8 a9 a10 a11 a12 a13 a14 a15) := by
 intro a0 a1 a2 a3 a4 a5 a6 a7 a8 a9 a10 a11 a12 a13 a14 a15 k
 obtain ⟨ih0, ih1⟩ := gangwayref09_Check.mono_l k
 unfold gangwayref09_Check.f
 repeat' first
   | (with_reducible exact ih0 _ _ _ _ _ _ _ _ _ _ _ _ _ _ _ _ _ _ _ _ _ _ _ _ _ _ _ _ _ _ _ _ _)
   | (with_reducible exact ih1 _)
   | (with_reducible exact LeO.refl _)
   | (with_reducible exact LeO.none _)
   | (with_reducible refine LeO.ite ?_ ?_)
   | (with_reducible refine LeO.bind ?_ (fun _ => ?_))
   | exact ih0 _ _ _ _ _ _ _ _ _ _ _ _ _ _ _ _ _ _ _ _ _ _ _ _ _ _ _ _ _ _ _ _ _
   | exact ih1 _
   | exact LeO.none _
   | refine LeO.ite ?_ ?_
   | refine LeO.bind ?_ (fun _ => ?_)
theorem z16_0 {p : Prop} (h : p := by
 go_wp2_with (first | ((with_reducible refine gate_st (ty := 24) rfl ?_); refine storeC16 rfl rfl rfl rfl rfl qb2 qo qf rfl ?_) | ((with_reducible refine gate_ld (ty := 24) rfl ?_); (try (with_reducible refine gate_gd rfl ?_; refine gate_guard qc8 ?_; dsimp only)); refine load_st rfl rfl rfl qb2 qo Tryd.underlying24 rfl qf ?_; (try simp only [Act.put, List.setIfInBounds_toArray, List.set_cons_zero, List.set_cons_succ])) | ((with_reducible refine gate_eql (ty := 24) rfl ?_); (try (with_reducible refine gate_gd rfl ?_; refine gate_guard qc8 ?_; dsimp only)); refine eql24 rfl rfl rfl rfl true qq ?_; (try simp only [Act.put, List.setIfInBounds_toArray, List.set_cons_zero, List.set_cons_succ])) | ((with_reducible refine gate_eql (ty := 24) rfl ?_); (try (with_reducible refine gate_gd rfl ?_; refine gate_guard qc8 ?_; dsimp only)); refine eql24 rfl rfl rfl rfl false qq ?_; (try simp only [Act.put, List.setIfInBounds_toArray, List.set_cons_zero, List.set_cons_succ])) | go_in)
 go_meet
 case rel => exact ⟨_, (false), qk, H', ⟨by have := HJ1.out; first | omega | exact Nat.le_refl _⟩, ⟨by (with_reducible repeat (first | refine blk_drewN ?_ _ | refine blk_drew ?_ | refine blk_alloc ?_ _)); exact BK366.out⟩, ⟨by (with_reducible repeat (first | refine blk_drewN ?_ _ | refine blk_drew ?_ | refine blk_alloc ?_ _)); exact BK367.out⟩, ⟨by repeat (first | (with_reducible first | exact HB.out | apply below_alloc | apply pw_below_drewN | apply below_drew1 | refine below_set ?_ GE366.out | refine below_set ?_ GE367.out) | exact HB.out)⟩⟩) : p := h
theorem z16_1 {p : Prop} (h : p := by
 go_wp2_with (first | ((with_reducible refine gate_st (ty := 24) rfl ?_); refine storeC16 rfl rfl rfl rfl rfl qb2 qo qf rfl ?_) | ((with_reducible refine gate_ld (ty := 24) rfl ?_); (try (with_reducible refine gate_gd rfl ?_; refine gate_guard qc8 ?_; dsimp only)); refine load_st rfl rfl rfl qb2 qo Tryd.underlying24 rfl qf ?_; (try simp only [Act.put, List.setIfInBounds_toArray, List.set_cons_zero, List.set_cons_succ])) | ((with_reducible refine gate_eql (ty := 24) rfl ?_); (try (with_reducible refine gate_gd rfl ?_; refine gate_guard qc8 ?_; dsimp only)); refine eql24 rfl rfl rfl rfl true qq ?_; (try simp only [Act.put, List.setIfInBounds_toArray, List.set_cons_zero, List.set_cons_succ])) | ((with_reducible refine gate_eql (ty := 24) rfl ?_); (try (with_reducible refine gate_gd rfl ?_; refine gate_guard qc8 ?_; dsimp only)); refine eql24 rfl rfl rfl rfl false qq ?_; (try simp only [Act.put, List.setIfInBounds_toArray, List.set_cons_zero, List.set_cons_succ])) | go_in)
 go_meet
 case rel => exact ⟨_, (true), qk, H', ⟨by have := HJ1.out; first | omega | exact Nat.le_refl _⟩, ⟨by (with_reducible repeat (first | refine blk_drewN ?_ _ | refine blk_drew ?_ | refine blk_alloc ?_ _)); exact BK366.out⟩, ⟨by (with_reducible repeat (first | refine blk_drewN ?_ _ | refine blk_drew ?_ | refine blk_alloc ?_ _)); exact BK367.out⟩, ⟨by repeat (first | (with_reducible first | exact HB.out | apply below_alloc | apply pw_below_drewN | apply below_drew1 | refine below_set ?_ GE366.out | refine below_set ?_ GE367.out) | exact HB.out)⟩⟩) : p := h
theorem z16_2 {p : Prop} (h : p := by
 have H' := Aside0.mk H
 clear H
 have hnbz0 := NB366_367.out
 have hncz0 := NB367_366.out
 obtain ⟨hczz1_0, hczz1_1, hczz1_2, hczz1_3, hczz1_4, hczz1_5, hczz1_6, hczz1_7, hczz1_8, hczz1_9, hczz1_10, hczz1_11, hczz1_12, hczz1_13, hczz1_14, hczz1_15⟩ := cells16 BK366.out
 obtain ⟨hfzz1_0, hfzz1_1, hfzz1_2, hfzz1_3, hfzz1_4, hfzz1_5, hfzz1_6, hfzz1_7, hfzz1_8, hfzz1_9, hfzz1_10, hfzz1_11, hfzz1_12, hfzz1_13, hfzz1_14, hfzz1_15⟩ := frozen16 BK366.out
 go_wp2_with (first | ((with_reducible refine gate_st (ty := 24) rfl ?_); refine storeC16 rfl rfl rfl rfl rfl qb2 qo qf rfl ?_) | ((with_reducible refine gate_ld (ty := 24) rfl ?_); (try (with_reducible refine gate_gd rfl ?_; refine gate_guard qc8 ?_; dsimp only)); refine load_st rfl rfl rfl qb2 qo Tryd.underlying24 rfl qf ?_; (try simp only [Act.put, List.setIfInBounds_toArray, List.set_cons_zero, List.set_cons_succ])) | ((with_reducible refine gate_eql (ty := 24) rfl ?_); (try (with_reducible refine gate_gd rfl ?_; refine gate_guard qc8 ?_; dsimp only)); refine eql24 rfl rfl rfl rfl true qq ?_; (try simp only [Act.put, List.setIfInBounds_toArray, List.set_cons_zero, List.set_cons_succ])) | ((with_reducible refine gate_eql (ty := 24) rfl ?_); (try (with_reducible refine gate_gd rfl ?_; refine gate_guard qc8 ?_; dsimp only)); refine eql24 rfl rfl rfl rfl false qq ?_; (try simp only [Act.put, List.setIfInBounds_toArray, List.set_cons_zero, List.set_cons_succ])) | go_in)
 go_meet
 case rel => exact ⟨_, (false), qk, H', ⟨by first | omega | exact Nat.le_refl _⟩, ⟨by (with_reducible repeat (first | refine blk_drewN ?_ _ | refine blk_drew ?_ | refine blk_alloc ?_ _ | refine blk_far ?_ NB366_367.out _)); exact BK366.out⟩, ⟨by (with_reducible repeat (first | refine blk_drewN ?_ _ | refine blk_drew ?_ | refine blk_alloc ?_ _)); exact put16_0_16 qbc⟩, ⟨by repeat (first | (with_reducible first | exact HB.out | apply below_alloc | apply pw_below_drewN | apply below_drew1 | refine below_set ?_ GE366.out | refine below_set ?_ GE367.out) | exact HB.out)⟩⟩) : p := h
theorem z16_8 {p : Prop} (h : p := by
 have H' := Aside0.mk H
 clear H
 have hnbzz17 := NB366_367.out
 have hnczz17 := NB367_366.out
 obtain ⟨hczzz18_0, hczzz18_1, hczzz18_2, hczzz18_3, hczzz18_4, hczzz18_5, hczzz18_6, hczzz18_7, hczzz18_8, hczzz18_9, hczzz18_10, hczzz18_11, hczzz18_12, hczzz18_13, hczzz18_14, hczzz18_15⟩ := cells16 BK366.out
 obtain ⟨hfzzz18_0, hfzzz18_1, hfzzz18_2, hfzzz18_3, hfzzz18_4, hfzzz18_5, hfzzz18_6, hfzzz18_7, hfzzz18_8, hfzzz18_9, hfzzz18_10, hfzzz18_11, hfzzz18_12, hfzzz18_13, hfzzz18_14, hfzzz18_15⟩ := frozen16 BK366.out
 exact z16_0) : p := h
theorem z16_3 {p : Prop} (h : p := by
 by_cases cz17 : a0_0 = 2
 ·rw [if_pos cz17] at H
  have cz17b0 : (a0_0 == 2) = true := beq_iff_eq.mpr cz17
  have cz17b1 : (a0_0 != 2) = false := bne_eq_false_iff_eq.mpr cz17
  clear cz17
  have H' := Aside0.mk H
  clear H
  have hnbz18 := NB366_367.out
  have hncz18 := NB367_366.out
  obtain ⟨hczz19_0, hczz19_1, hczz19_2, hczz19_3, hczz19_4, hczz19_5, hczz19_6, hczz19_7, hczz19_8, hczz19_9, hczz19_10, hczz19_11, hczz19_12, hczz19_13, hczz19_14, hczz19_15⟩ := cells16 BK366.out
  obtain ⟨hfzz19_0, hfzz19_1, hfzz19_2, hfzz19_3, hfzz19_4, hfzz19_5, hfzz19_6, hfzz19_7, hfzz19_8, hfzz19_9, hfzz19_10, hfzz19_11, hfzz19_12, hfzz19_13, hfzz19_14, hfzz19_15⟩ := frozen16 BK366.out
  go_wp2_with (first | ((with_reducible refine gate_st (ty := 24) rfl ?_); refine storeC16 rfl rfl rfl rfl rfl qb2 qo qf rfl ?_) | ((with_reducible refine gate_ld (ty := 24) rfl ?_); (try (with_reducible refine gate_gd rfl ?_; refine gate_guard qc8 ?_; dsimp only)); refine load_st rfl rfl rfl qb2 qo Tryd.underlying24 rfl qf ?_; (try simp only [Act.put, List.setIfInBounds_toArray, List.set_cons_zero, List.set_cons_succ])) | ((with_reducible refine gate_eql (ty := 24) rfl ?_); (try (with_reducible refine gate_gd rfl ?_; refine gate_guard qc8 ?_; dsimp only)); refine eql24 rfl rfl rfl rfl true qq ?_; (try simp only [Act.put, List.setIfInBounds_toArray, List.set_cons_zero, List.set_cons_succ])) | ((with_reducible refine gate_eql (ty := 24) rfl ?_); (try (with_reducible refine gate_gd rfl ?_; refine gate_guard qc8 ?_; dsimp only)); refine eql24 rfl rfl rfl rfl false qq ?_; (try simp only [Act.put, List.setIfInBounds_toArray, List.set_cons_zero, List.set_cons_succ])) | go_in)
  go_meet
  case rel => exact ⟨_, (x4_1), qk, H', ⟨by have := HJ1.out; first | omega | exact Nat.le_refl _⟩, ⟨by (with_reducible repeat (first | refine blk_drewN ?_ _ | refine blk_drew ?_ | refine blk_alloc ?_ _)); exact BK366.out⟩, ⟨by (with_reducible repeat (first | refine blk_drewN ?_ _ | refine blk_drew ?_ | refine blk_alloc ?_ _)); exact BK367.out⟩, ⟨by repeat (first | (with_reducible first | exact HB.out | apply below_alloc | apply pw_below_drewN | apply below_drew1 | refine below_set ?_ GE366.out | refine below_set ?_ GE367.out) | exact HB.out)⟩⟩
 ·rw [if_neg cz17] at H
  have cz17b0 : (a0_0 == 2) = false := beq_eq_false_iff_ne.mpr cz17
  have cz17b1 : (a0_0 != 2) = true := bne_iff_ne.mpr cz17
  exact z16_8) : p := h
theorem z16_4 {p : Prop} (h : p := by
 have H' := Aside0.mk H
 clear H
 have hnbz17 := NB366_367.out
 have hncz17 := NB367_366.out
 obtain ⟨hczz18_0, hczz18_1, hczz18_2, hczz18_3, hczz18_4, hczz18_5, hczz18_6, hczz18_7, hczz18_8, hczz18_9, hczz18_10, hczz18_11, hczz18_12, hczz18_13, hczz18_14, hczz18_15⟩ := cells16 BK366.out
 obtain ⟨hfzz18_0, hfzz18_1, hfzz18_2, hfzz18_3, hfzz18_4, hfzz18_5, hfzz18_6, hfzz18_7, hfzz18_8, hfzz18_9, hfzz18_10, hfzz18_11, hfzz18_12, hfzz18_13, hfzz18_14, hfzz18_15⟩ := frozen16 BK366.out
 obtain ⟨hczz19_0, hczz19_1, hczz19_2, hczz19_3, hczz19_4, hczz19_5, hczz19_6, hczz19_7, hczz19_8, hczz19_9, hczz19_10, hczz19_11, hczz19_12, hczz19_13, hczz19_14, hczz19_15⟩ := cells16 BK367.out
 obtain ⟨hfzz19_0, hfzz19_1, hfzz19_2, hfzz19_3, hfzz19_4, hfzz19_5, hfzz19_6, hfzz19_7, hfzz19_8, hfzz19_9, hfzz19_10, hfzz19_11, hfzz19_12, hfzz19_13, hfzz19_14, hfzz19_15⟩ := frozen16 BK367.out
 exact z16_1) : p := h
theorem z16_5 {p : Prop} (h : p := by
 obtain rfl := Option.some.inj H
 go_wp2_with (first | ((with_reducible refine gate_st (ty := 24) rfl ?_); refine storeC16 rfl rfl rfl rfl rfl qb2 qo qf rfl ?_) | ((with_reducible refine gate_ld (ty := 24) rfl ?_); (try (with_reducible refine gate_gd rfl ?_; refine gate_guard qc8 ?_; dsimp only)); refine load_st rfl rfl rfl qb2 qo Tryd.underlying24 rfl qf ?_; (try simp only [Act.put, List.setIfInBounds_toArray, List.set_cons_zero, List.set_cons_succ])) | ((with_reducible refine gate_eql (ty := 24) rfl ?_); (try (with_reducible refine gate_gd rfl ?_; refine gate_guard qc8 ?_; dsimp only)); refine eql24 rfl rfl rfl rfl true qq ?_; (try simp only [Act.put, List.setIfInBounds_toArray, List.set_cons_zero, List.set_cons_succ])) | ((with_reducible refine gate_eql (ty := 24) rfl ?_); (try (with_reducible refine gate_gd rfl ?_; refine gate_guard qc8 ?_; dsimp only)); refine eql24 rfl rfl rfl rfl false qq ?_; (try simp only [Act.put, List.setIfInBounds_toArray, List.set_cons_zero, List.set_cons_succ])) | go_in)
 go_ret
 exact ⟨by first | rfl | (simp [errW_none, errW_some] <;> rfl) | (simp [*, errW_none, errW_some] <;> rfl) | (simp [*, IntKind.wrap_u32]; done) | (simp_all [IntKind.wrap_u32]; done), by repeat (first | (with_reducible first | exact HB.out | apply below_alloc | apply pw_below_drewN | apply below_drew1 | refine below_set ?_ GE366.out | refine below_set ?_ GE367.out) | exact HB.out)⟩) : p := h
theorem z16_6 {p : Prop} (h : p := by
 exact z16_8) : p := h
theorem z16_7 {p : Prop} (h : p := by
 by_cases cz20 : a0_0 = 2
 ·rw [if_pos cz20] at H
  have cz20b0 : (a0_0 == 2) = true := beq_iff_eq.mpr cz20
  have cz20b1 : (a0_0 != 2) = false := bne_eq_false_iff_eq.mpr cz20
  clear cz20
  exact z16_4
 ·rw [if_neg cz20] at H
  have cz20b0 : (a0_0 == 2) = false := beq_eq_false_iff_ne.mpr cz20
  have cz20b1 : (a0_0 != 2) = true := bne_iff_ne.mpr cz20
  have H' := Aside0.mk H
  clear H
  have hnbz21 := NB366_367.out
  have hncz21 := NB367_366.out
  obtain ⟨hczz22_0, hczz22_1, hczz22_2, hczz22_3, hczz22_4, hczz22_5, hczz22_6, hczz22_7, hczz22_8, hczz22_9, hczz22_10, hczz22_11, hczz22_12, hczz22_13, hczz22_14, hczz22_15⟩ := cells16 BK366.out
  obtain ⟨hfzz22_0, hfzz22_1, hfzz22_2, hfzz22_3, hfzz22_4, hfzz22_5, hfzz22_6, hfzz22_7, hfzz22_8, hfzz22_9, hfzz22_10, hfzz22_11, hfzz22_12, hfzz22_13, hfzz22_14, hfzz22_15⟩ := frozen16 BK366.out
  obtain ⟨hczz23_0, hczz23_1, hczz23_2, hczz23_3, hczz23_4, hczz23_5, hczz23_6, hczz23_7, hczz23_8, hczz23_9, hczz23_10, hczz23_11, hczz23_12, hczz23_13, hczz23_14, hczz23_15⟩ := cells16 BK367.out
  obtain ⟨hfzz23_0, hfzz23_1, hfzz23_2, hfzz23_3, hfzz23_4, hfzz23_5, hfzz23_6, hfzz23_7, hfzz23_8, hfzz23_9, hfzz23_10, hfzz23_11, hfzz23_12, hfzz23_13, hfzz23_14, hfzz23_15⟩ := frozen16 BK367.out
  exact z16_0) : p := h
theorem z16_9 {p : Prop} (h : p := by
 rw [if_neg (show ¬ (false = true) by decide)] at H
 by_cases cz19 : a0_0 = 2
 ·rw [if_pos cz19] at H
  have cz19b0 : (a0_0 == 2) = true := beq_iff_eq.mpr cz19
  have cz19b1 : (a0_0 != 2) = false := bne_eq_false_iff_eq.mpr cz19
  clear cz19
  exact z16_6
 ·rw [if_neg cz19] at H
  have cz19b0 : (a0_0 == 2) = false := beq_eq_false_iff_ne.mpr cz19
  have cz19b1 : (a0_0 != 2) = true := bne_iff_ne.mpr cz19
  exact z16_6) : p := h
set_option maxHeartbeats 8000000 in
set_option maxRecDepth 100000 in
theorem gangwayref09_Check.calls (k : Nat) (a0_0 : Int) (a0_1 : Bool) (a0_2 : Bool) (a0_3 : Bool) (a0_4 : Bool) (a0_5 : Bool) (a0_6 : Bool) (a0_7 : Int) (a0_8 : Int) (a0_9 : Int) (a0_10 : Int) (a0_11 : Int) (a0_12 : Int) (a0_13 : Int) (a0_14 : Int) (a0_15 : Int) (r : Int) (w : World) (h : gangwayref09_Check.f k a0_0 a0_1 a0_2 a0_3 a0_4 a0_5 a0_6 a0_7 a0_8 a0_9 a0_10 a0_11 a0_12 a0_13 a0_14 a0_15 = some r) :
  Calls Tryd.prog 12 #[.agg #[.int .i64 a0_0, .bool a0_1, .bool a0_2, .bool a0_3, .bool a0_4, .bool a0_5, .bool a0_6, .int .i64 a0_7, .int .u64 a0_8, .int .i64 a0_9, .int .u64 a0_10, .int .i64 a0_11, .int .i64 a0_12, .int .i64 a0_13, .int .i64 a0_14, .int .i64 a0_15]] w fun e w' => e = .returned (.int .i64 r) ∧ Below w.heap.size w w' := by
 have hu24 := Tryd.underlying24
 have HB := Aside0.mk (Below.refl w.heap.size w)
 have H : (if a0_7 ≥ 0 then (if a0_7 ≤ 3 then (if a0_9 ≥ 0 then (if a0_9 ≤ 4294967295 then ((gangwayref09_word.f a0_11).bind fun t368 => (if t368 = true then ((gangwayref09_word.f a0_12).bind fun t369 => (if t369 = true then ((gangwayref09_word.f a0_13).bind fun t370 => (if t370 = true then ((gangwayref09_word.f a0_14).bind fun t371 => (if t371 = true then ((gangwayref09_word.f a0_15).bind fun t372 => (gangwayref09_Check.j0 k t372 a0_0 a0_1 a0_2 a0_3 a0_4 a0_5 a0_6 a0_7 a0_8 a0_9 a0_10 a0_11 a0_12 a0_13 a0_14 a0_15 a0_0 a0_1 false false false false a0_6 0 a0_8 a0_9 a0_10 a0_11 a0_12 a0_13 a0_14 a0_15)) else (gangwayref09_Check.j0 k false a0_0 a0_1 a0_2 a0_3 a0_4 a0_5 a0_6 a0_7 a0_8 a0_9 a0_10 a0_11 a0_12 a0_13 a0_14 a0_15 a0_0 a0_1 false false false false a0_6 0 a0_8 a0_9 a0_10 a0_11 a0_12 a0_13 a0_14 a0_15))) else (gangwayref09_Check.j0 k false a0_0 a0_1 a0_2 a0_3 a0_4 a0_5 a0_6 a0_7 a0_8 a0_9 a0_10 a0_11 a0_12 a0_13 a0_14 a0_15 a0_0 a0_1 false false false false a0_6 0 a0_8 a0_9 a0_10 a0_11 a0_12 a0_13 a0_14 a0_15))) else (gangwayref09_Check.j0 k false a0_0 a0_1 a0_2 a0_3 a0_4 a0_5 a0_6 a0_7 a0_8 a0_9 a0_10 a0_11 a0_12 a0_13 a0_14 a0_15 a0_0 a0_1 false false false false a0_6 0 a0_8 a0_9 a0_10 a0_11 a0_12 a0_13 a0_14 a0_15))) else (gangwayref09_Check.j0 k false a0_0 a0_1 a0_2 a0_3 a0_4 a0_5 a0_6 a0_7 a0_8 a0_9 a0_10 a0_11 a0_12 a0_13 a0_14 a0_15 a0_0 a0_1 false false false false a0_6 0 a0_8 a0_9 a0_10 a0_11 a0_12 a0_13 a0_14 a0_15))) else (gangwayref09_Check.j0 k false a0_0 a0_1 a0_2 a0_3 a0_4 a0_5 a0_6 a0_7 a0_8 a0_9 a0_10 a0_11 a0_12 a0_13 a0_14 a0_15 a0_0 a0_1 false false false false a0_6 0 a0_8 a0_9 a0_10 a0_11 a0_12 a0_13 a0_14 a0_15)) else (gangwayref09_Check.j0 k false a0_0 a0_1 a0_2 a0_3 a0_4 a0_5 a0_6 a0_7 a0_8 a0_9 a0_10 a0_11 a0_12 a0_13 a0_14 a0_15 a0_0 a0_1 false false false false a0_6 0 a0_8 a0_9 a0_10 a0_11 a0_12 a0_13 a0_14 a0_15)) else (gangwayref09_Check.j0 k false a0_0 a0_1 a0_2 a0_3 a0_4 a0_5 a0_6 a0_7 a0_8 a0_9 a0_10 a0_11 a0_12 a0_13 a0_14 a0_15 a0_0 a0_1 false false false false a0_6 0 a0_8 a0_9 a0_10 a0_11 a0_12 a0_13 a0_14 a0_15)) else (gangwayref09_Check.j0 k false a0_0 a0_1 a0_2 a0_3 a0_4 a0_5 a0_6 a0_7 a0_8 a0_9 a0_10 a0_11 a0_12 a0_13 a0_14 a0_15 a0_0 a0_1 false false false false a0_6 0 a0_8 a0_9 a0_10 a0_11 a0_12 a0_13 a0_14 a0_15)) = some r := h
 clear h
 have HC2 := Aside0.mk H
 clear H
 go_enter Tryd.func12, Tryd.ntmps12
 go_upto_region 2 with (first | ((with_reducible refine gate_st (ty := 24) rfl ?_); refine storeC16 rfl rfl rfl rfl rfl qb2 qo qf rfl ?_) | ((with_reducible refine gate_ld (ty := 24) rfl ?_); (try (with_reducible refine gate_gd rfl ?_; refine gate_guard qc8 ?_; dsimp only)); refine load_st rfl rfl rfl qb2 qo Tryd.underlying24 rfl qf ?_; (try simp only [Act.put, List.setIfInBounds_toArray, List.set_cons_zero, List.set_cons_succ])) | ((with_reducible refine gate_eql (ty := 24) rfl ?_); (try (with_reducible refine gate_gd rfl ?_; refine gate_guard qc8 ?_; dsimp only)); refine eql24 rfl rfl rfl rfl true qq ?_; (try simp only [Act.put, List.setIfInBounds_toArray, List.set_cons_zero, List.set_cons_succ])) | ((with_reducible refine gate_eql (ty := 24) rfl ?_); (try (with_reducible refine gate_gd rfl ?_; refine gate_guard qc8 ?_; dsimp only)); refine eql24 rfl rfl rfl rfl false qq ?_; (try simp only [Act.put, List.setIfInBounds_toArray, List.set_cons_zero, List.set_cons_succ])) | ((with_reducible refine gate_dst (N := 1) rfl ?_); refine box_event ?hg (N := 1) ?hd (cs := #[.int .i64 a0_0, .bool a0_1, .bool a0_2, .bool a0_3, .bool a0_4, .bool a0_5, .bool a0_6, .int .i64 a0_7, .int .u64 a0_8, .int .i64 a0_9, .int .u64 a0_10, .int .i64 a0_11, .int .i64 a0_12, .int .i64 a0_13, .int .i64 a0_14, .int .i64 a0_15]) (t := 24) ?hr ?_; (case hd => rfl); (case hg => rfl); (case hr => first | (go_simp; done) | (go_simp; rfl)); intro gb366 hg w3 hbox hb; have n0_ := Aside0.mk (below_step qbh hb); have n1_ := Aside0.mk (hbox); have n2_ := Aside0.mk ((qcq : w.heap.size ≤ gb366)); have n3_ := Aside0.mk ((qcq : w.heap.size ≤ gb366)); clear HB; have HB := n0_; have BK366 := n1_; have GW366 := n2_; have GE366 := n3_; clear n0_ n1_ n2_ n3_; clear hb hbox hg; obtain ⟨hcz4_0, hcz4_1, hcz4_2, hcz4_3, hcz4_4, hcz4_5, hcz4_6, hcz4_7, hcz4_8, hcz4_9, hcz4_10, hcz4_11, hcz4_12, hcz4_13, hcz4_14, hcz4_15⟩ := cells16 BK366.out; obtain ⟨hfz4_0, hfz4_1, hfz4_2, hfz4_3, hfz4_4, hfz4_5, hfz4_6, hfz4_7, hfz4_8, hfz4_9, hfz4_10, hfz4_11, hfz4_12, hfz4_13, hfz4_14, hfz4_15⟩ := frozen16 BK366.out) | ((with_reducible refine gate_dst (N := 3) rfl ?_); refine box_event ?hg (N := 3) ?hd (cs := #[.int .i64 0, .bool false, .bool false, .bool false, .bool false, .bool false, .bool false, .int .i64 0, .int .u64 0, .int .i64 0, .int .u64 0, .int .i64 0, .int .i64 0, .int .i64 0, .int .i64 0, .int .i64 0]) (t := 24) ?hr ?_; (case hd => rfl); (case hg => rfl); (case hr => first | (go_simp; done) | (go_simp; rfl)); intro gb367 hg w5 hbox hb; have n0_ := Aside0.mk (blk_below (g := gb366) qbg hb); have n1_ := Aside0.mk (below_step qbt hb); have n2_ := Aside0.mk (hbox); have n3_ := Aside0.mk ((by rw [hg]; exact (below_size qbt) : w.heap.size ≤ gb367)); have n4_ := Aside0.mk ((by rw [hg]; exact (below_size qbt) : w.heap.size ≤ gb367)); have n5_ := Aside0.mk ((by rw [hg]; exact Nat.ne_of_lt (blk_lt (g := gb366) qbg) : gb366 ≠ gb367)); have n6_ := Aside0.mk ((by rw [hg]; exact Nat.ne_of_gt (blk_lt (g := gb366) qbg) : gb367 ≠ gb366)); clear BK366; clear HB; have BK366 := n0_; have HB := n1_; have BK367 := n2_; have GW367 := n3_; have GE367 := n4_; have NB366_367 := n5_; have NB367_366 := n6_; clear n0_ n1_ n2_ n3_ n4_ n5_ n6_; clear hb hbox hg; have hnb6 := NB367_366.out; have hnc6 := NB366_367.out; obtain ⟨hcz7_0, hcz7_1, hcz7_2, hcz7_3, hcz7_4, hcz7_5, hcz7_6, hcz7_7, hcz7_8, hcz7_9, hcz7_10, hcz7_11, hcz7_12, hcz7_13, hcz7_14, hcz7_15⟩ := cells16 BK367.out; obtain ⟨hfz7_0, hfz7_1, hfz7_2, hfz7_3, hfz7_4, hfz7_5, hfz7_6, hfz7_7, hfz7_8, hfz7_9, hfz7_10, hfz7_11, hfz7_12, hfz7_13, hfz7_14, hfz7_15⟩ := frozen16 BK367.out))
 (try simp only [Act.put, List.setIfInBounds_toArray, List.set_cons_zero, List.set_cons_succ])
 go_cut [4] (fun v4 wc => ∃ (kq : Nat) (x4_1 : Bool), v4 = .bool x4_1 ∧ Aside0 (gangwayref09_Check.j0 kq x4_1 a0_0 a0_1 a0_2 a0_3 a0_4 a0_5 a0_6 a0_7 a0_8 a0_9 a0_10 a0_11 a0_12 a0_13 a0_14 a0_15 a0_0 a0_1 false false false false a0_6 0 a0_8 a0_9 a0_10 a0_11 a0_12 a0_13 a0_14 a0_15 = some r) ∧ Aside0 (kq ≤ k) ∧ Aside0 (wc.heap[gb366]? = some (.cells #[.int .i64 a0_0, .bool a0_1, .bool a0_2, .bool a0_3, .bool a0_4, .bool a0_5, .bool a0_6, .int .i64 a0_7, .int .u64 a0_8, .int .i64 a0_9, .int .u64 a0_10, .int .i64 a0_11, .int .i64 a0_12, .int .i64 a0_13, .int .i64 a0_14, .int .i64 a0_15] 24 (0, 0))) ∧ Aside0 (wc.heap[gb367]? = some (.cells #[.int .i64 a0_0, .bool a0_1, .bool false, .bool false, .bool false, .bool false, .bool a0_6, .int .i64 0, .int .u64 a0_8, .int .i64 a0_9, .int .u64 a0_10, .int .i64 a0_11, .int .i64 a0_12, .int .i64 a0_13, .int .i64 a0_14, .int .i64 a0_15] 24 (0, 0))) ∧ Aside0 (Below w.heap.size w wc))
 case first =>
  have H := HC2.out
  clear HC2
  by_cases c8 : a0_7 ≥ 0
  ·rw [if_pos c8] at H
   have c8b0 : decide (0 ≤ a0_7) = true := decide_eq_true c8
   clear c8
   (first | rw [c8b0] | (simp only [i64_w, i32_w]; rw [c8b0]) | skip)
   by_cases c9 : a0_7 ≤ 3
   ·rw [if_pos c9] at H
    have c9b0 : decide (a0_7 ≤ 3) = true := decide_eq_true c9
    clear c9
    by_cases c10 : a0_9 ≥ 0
    ·rw [if_pos c10] at H
     have c10b0 : decide (0 ≤ a0_9) = true := decide_eq_true c10
     clear c10
     by_cases c11 : a0_9 ≤ 4294967295
     ·rw [if_pos c11] at H
      have c11b0 : decide (a0_9 ≤ 4294967295) = true := decide_eq_true c11
      clear c11
      replace H := Option.bind_eq_some_iff.mp H
      obtain ⟨t368, A120, H⟩ := H
      try dsimp only at H
      have A12 := Aside0.mk A120
      clear A120
      by_cases c13 : t368 = true
      ·subst c13
       rw [if_pos rfl] at H
       replace H := Option.bind_eq_some_iff.mp H
       obtain ⟨t369, A140, H⟩ := H
       try dsimp only at H
       have A14 := Aside0.mk A140
       clear A140
       by_cases c15 : t369 = true
       ·subst c15
        rw [if_pos rfl] at H
        replace H := Option.bind_eq_some_iff.mp H
        obtain ⟨t370, A160, H⟩ := H
        try dsimp only at H
        have A16 := Aside0.mk A160
        clear A160
        by_cases c17 : t370 = true
        ·subst c17
         rw [if_pos rfl] at H
         replace H := Option.bind_eq_some_iff.mp H
         obtain ⟨t371, A180, H⟩ := H
         try dsimp only at H
         have A18 := Aside0.mk A180
         clear A180
         by_cases c19 : t371 = true
         ·subst c19
          rw [if_pos rfl] at H
          replace H := Option.bind_eq_some_iff.mp H
          obtain ⟨t372, A200, H⟩ := H
          try dsimp only at H
          have A20 := Aside0.mk A200
          clear A200
          have H' := Aside0.mk H
          clear H
          have hnb21 := NB366_367.out
          have hnc21 := NB367_366.out
          obtain ⟨hcz22_0, hcz22_1, hcz22_2, hcz22_3, hcz22_4, hcz22_5, hcz22_6, hcz22_7, hcz22_8, hcz22_9, hcz22_10, hcz22_11, hcz22_12, hcz22_13, hcz22_14, hcz22_15⟩ := cells16 BK366.out
          obtain ⟨hfz22_0, hfz22_1, hfz22_2, hfz22_3, hfz22_4, hfz22_5, hfz22_6, hfz22_7, hfz22_8, hfz22_9, hfz22_10, hfz22_11, hfz22_12, hfz22_13, hfz22_14, hfz22_15⟩ := frozen16 BK366.out
          go_wp2_with (first | ((with_reducible refine gate_st (ty := 24) rfl ?_); refine storeC16 rfl rfl rfl rfl rfl qb2 qo qf rfl ?_) | ((with_reducible refine gate_ld (ty := 24) rfl ?_); (try (with_reducible refine gate_gd rfl ?_; refine gate_guard qc8 ?_; dsimp only)); refine load_st rfl rfl rfl qb2 qo Tryd.underlying24 rfl qf ?_; (try simp only [Act.put, List.setIfInBounds_toArray, List.set_cons_zero, List.set_cons_succ])) | ((with_reducible refine gate_eql (ty := 24) rfl ?_); (try (with_reducible refine gate_gd rfl ?_; refine gate_guard qc8 ?_; dsimp only)); refine eql24 rfl rfl rfl rfl true qq ?_; (try simp only [Act.put, List.setIfInBounds_toArray, List.set_cons_zero, List.set_cons_succ])) | ((with_reducible refine gate_eql (ty := 24) rfl ?_); (try (with_reducible refine gate_gd rfl ?_; refine gate_guard qc8 ?_; dsimp only)); refine eql24 rfl rfl rfl rfl false qq ?_; (try simp only [Act.put, List.setIfInBounds_toArray, List.set_cons_zero, List.set_cons_succ])) | (go_at_call 25; (with_reducible refine (gangwayref09_word.calls a0_11 true _ A12.out).mono ?_); rintro e w' ⟨rfl, ⟨nd, rfl⟩⟩) | (go_at_call 25; (with_reducible refine (gangwayref09_word.calls a0_12 true _ A14.out).mono ?_); rintro e w' ⟨rfl, ⟨nd, rfl⟩⟩) | (go_at_call 25; (with_reducible refine (gangwayref09_word.calls a0_13 true _ A16.out).mono ?_); rintro e w' ⟨rfl, ⟨nd, rfl⟩⟩) | (go_at_call 25; (with_reducible refine (gangwayref09_word.calls a0_14 true _ A18.out).mono ?_); rintro e w' ⟨rfl, ⟨nd, rfl⟩⟩) | (go_at_call 25; (with_reducible refine (gangwayref09_word.calls a0_15 t372 _ A20.out).mono ?_); rintro e w' ⟨rfl, ⟨nd, rfl⟩⟩))
          go_meet
          case rel => exact ⟨_, (t372), qk, H', ⟨by first | omega | exact Nat.le_refl _⟩, ⟨by (with_reducible repeat (first | refine blk_drewN ?_ _ | refine blk_drew ?_ | refine blk_alloc ?_ _ | refine blk_far ?_ NB366_367.out _)); exact BK366.out⟩, ⟨by (with_reducible repeat (first | refine blk_drewN ?_ _ | refine blk_drew ?_ | refine blk_alloc ?_ _)); exact put16_0_16 qbc⟩, ⟨by repeat (first | (with_reducible first | exact HB.out | apply below_alloc | apply pw_below_drewN | apply below_drew1 | refine below_set ?_ GE366.out | refine below_set ?_ GE367.out) | exact HB.out)⟩⟩
         ·replace c19 := Bool.eq_false_iff.mpr c19
          subst c19
          rw [if_neg (show ¬ (false = true) by decide)] at H
          have H' := Aside0.mk H
          clear H
          have hnb23 := NB366_367.out
          have hnc23 := NB367_366.out
          obtain ⟨hcz24_0, hcz24_1, hcz24_2, hcz24_3, hcz24_4, hcz24_5, hcz24_6, hcz24_7, hcz24_8, hcz24_9, hcz24_10, hcz24_11, hcz24_12, hcz24_13, hcz24_14, hcz24_15⟩ := cells16 BK366.out
          obtain ⟨hfz24_0, hfz24_1, hfz24_2, hfz24_3, hfz24_4, hfz24_5, hfz24_6, hfz24_7, hfz24_8, hfz24_9, hfz24_10, hfz24_11, hfz24_12, hfz24_13, hfz24_14, hfz24_15⟩ := frozen16 BK366.out
          go_wp2_with (first | ((with_reducible refine gate_st (ty := 24) rfl ?_); refine storeC16 rfl rfl rfl rfl rfl qb2 qo qf rfl ?_) | ((with_reducible refine gate_ld (ty := 24) rfl ?_); (try (with_reducible refine gate_gd rfl ?_; refine gate_guard qc8 ?_; dsimp only)); refine load_st rfl rfl rfl qb2 qo Tryd.underlying24 rfl qf ?_; (try simp only [Act.put, List.setIfInBounds_toArray, List.set_cons_zero, List.set_cons_succ])) | ((with_reducible refine gate_eql (ty := 24) rfl ?_); (try (with_reducible refine gate_gd rfl ?_; refine gate_guard qc8 ?_; dsimp only)); refine eql24 rfl rfl rfl rfl true qq ?_; (try simp only [Act.put, List.setIfInBounds_toArray, List.set_cons_zero, List.set_cons_succ])) | ((with_reducible refine gate_eql (ty := 24) rfl ?_); (try (with_reducible refine gate_gd rfl ?_; refine gate_guard qc8 ?_; dsimp only)); refine eql24 rfl rfl rfl rfl false qq ?_; (try simp only [Act.put, List.setIfInBounds_toArray, List.set_cons_zero, List.set_cons_succ])) | (go_at_call 25; (with_reducible refine (gangwayref09_word.calls a0_11 true _ A12.out).mono ?_); rintro e w' ⟨rfl, ⟨nd, rfl⟩⟩) | (go_at_call 25; (with_reducible refine (gangwayref09_word.calls a0_12 true _ A14.out).mono ?_); rintro e w' ⟨rfl, ⟨nd, rfl⟩⟩) | (go_at_call 25; (with_reducible refine (gangwayref09_word.calls a0_13 true _ A16.out).mono ?_); rintro e w' ⟨rfl, ⟨nd, rfl⟩⟩) | (go_at_call 25; (with_reducible refine (gangwayref09_word.calls a0_14 false _ A18.out).mono ?_); rintro e w' ⟨rfl, ⟨nd, rfl⟩⟩))
          go_meet
          case rel => exact ⟨_, (false), qk, H', ⟨by first | omega | exact Nat.le_refl _⟩, ⟨by (with_reducible repeat (first | refine blk_drewN ?_ _ | refine blk_drew ?_ | refine blk_alloc ?_ _ | refine blk_far ?_ NB366_367.out _)); exact BK366.out⟩, ⟨by (with_reducible repeat (first | refine blk_drewN ?_ _ | refine blk_drew ?_ | refine blk_alloc ?_ _)); exact put16_0_16 qbc⟩, ⟨by repeat (first | (with_reducible first | exact HB.out | apply below_alloc | apply pw_below_drewN | apply below_drew1 | refine below_set ?_ GE366.out | refine below_set ?_ GE367.out) | exact HB.out)⟩⟩
        ·replace c17 := Bool.eq_false_iff.mpr c17
         subst c17
         rw [if_neg (show ¬ (false = true) by decide)] at H
         have H' := Aside0.mk H
         clear H
         have hnb25 := NB366_367.out
         have hnc25 := NB367_366.out
         obtain ⟨hcz26_0, hcz26_1, hcz26_2, hcz26_3, hcz26_4, hcz26_5, hcz26_6, hcz26_7, hcz26_8, hcz26_9, hcz26_10, hcz26_11, hcz26_12, hcz26_13, hcz26_14, hcz26_15⟩ := cells16 BK366.out
         obtain ⟨hfz26_0, hfz26_1, hfz26_2, hfz26_3, hfz26_4, hfz26_5, hfz26_6, hfz26_7, hfz26_8, hfz26_9, hfz26_10, hfz26_11, hfz26_12, hfz26_13, hfz26_14, hfz26_15⟩ := frozen16 BK366.out
         go_wp2_with (first | ((with_reducible refine gate_st (ty := 24) rfl ?_); refine storeC16 rfl rfl rfl rfl rfl qb2 qo qf rfl ?_) | ((with_reducible refine gate_ld (ty := 24) rfl ?_); (try (with_reducible refine gate_gd rfl ?_; refine gate_guard qc8 ?_; dsimp only)); refine load_st rfl rfl rfl qb2 qo Tryd.underlying24 rfl qf ?_; (try simp only [Act.put, List.setIfInBounds_toArray, List.set_cons_zero, List.set_cons_succ])) | ((with_reducible refine gate_eql (ty := 24) rfl ?_); (try (with_reducible refine gate_gd rfl ?_; refine gate_guard qc8 ?_; dsimp only)); refine eql24 rfl rfl rfl rfl true qq ?_; (try simp only [Act.put, List.setIfInBounds_toArray, List.set_cons_zero, List.set_cons_succ])) | ((with_reducible refine gate_eql (ty := 24) rfl ?_); (try (with_reducible refine gate_gd rfl ?_; refine gate_guard qc8 ?_; dsimp only)); refine eql24 rfl rfl rfl rfl false qq ?_; (try simp only [Act.put, List.setIfInBounds_toArray, List.set_cons_zero, List.set_cons_succ])) | (go_at_call 25; (with_reducible refine (gangwayref09_word.calls a0_11 true _ A12.out).mono ?_); rintro e w' ⟨rfl, ⟨nd, rfl⟩⟩) | (go_at_call 25; (with_reducible refine (gangwayref09_word.calls a0_12 true _ A14.out).mono ?_); rintro e w' ⟨rfl, ⟨nd, rfl⟩⟩) | (go_at_call 25; (with_reducible refine (gangwayref09_word.calls a0_13 false _ A16.out).mono ?_); rintro e w' ⟨rfl, ⟨nd, rfl⟩⟩))
         go_meet
         case rel => exact ⟨_, (false), qk, H', ⟨by first | omega | exact Nat.le_refl _⟩, ⟨by (with_reducible repeat (first | refine blk_drewN ?_ _ | refine blk_drew ?_ | refine blk_alloc ?_ _ | refine blk_far ?_ NB366_367.out _)); exact BK366.out⟩, ⟨by (with_reducible repeat (first | refine blk_drewN ?_ _ | refine blk_drew ?_ | refine blk_alloc ?_ _)); exact put16_0_16 qbc⟩, ⟨by repeat (first | (with_reducible first | exact HB.out | apply below_alloc | apply pw_below_drewN | apply below_drew1 | refine below_set ?_ GE366.out | refine below_set ?_ GE367.out) | exact HB.out)⟩⟩
       ·replace c15 := Bool.eq_false_iff.mpr c15
        subst c15
        rw [if_neg (show ¬ (false = true) by decide)] at H
        have H' := Aside0.mk H
        clear H
        have hnb27 := NB366_367.out
        have hnc27 := NB367_366.out
        obtain ⟨hcz28_0, hcz28_1, hcz28_2, hcz28_3, hcz28_4, hcz28_5, hcz28_6, hcz28_7, hcz28_8, hcz28_9, hcz28_10, hcz28_11, hcz28_12, hcz28_13, hcz28_14, hcz28_15⟩ := cells16 BK366.out
        obtain ⟨hfz28_0, hfz28_1, hfz28_2, hfz28_3, hfz28_4, hfz28_5, hfz28_6, hfz28_7, hfz28_8, hfz28_9, hfz28_10, hfz28_11, hfz28_12, hfz28_13, hfz28_14, hfz28_15⟩ := frozen16 BK366.out
        go_wp2_with (first | ((with_reducible refine gate_st (ty := 24) rfl ?_); refine storeC16 rfl rfl rfl rfl rfl qb2 qo qf rfl ?_) | ((with_reducible refine gate_ld (ty := 24) rfl ?_); (try (with_reducible refine gate_gd rfl ?_; refine gate_guard qc8 ?_; dsimp only)); refine load_st rfl rfl rfl qb2 qo Tryd.underlying24 rfl qf ?_; (try simp only [Act.put, List.setIfInBounds_toArray, List.set_cons_zero, List.set_cons_succ])) | ((with_reducible refine gate_eql (ty := 24) rfl ?_); (try (with_reducible refine gate_gd rfl ?_; refine gate_guard qc8 ?_; dsimp only)); refine eql24 rfl rfl rfl rfl true qq ?_; (try simp only [Act.put, List.setIfInBounds_toArray, List.set_cons_zero, List.set_cons_succ])) | ((with_reducible refine gate_eql (ty := 24) rfl ?_); (try (with_reducible refine gate_gd rfl ?_; refine gate_guard qc8 ?_; dsimp only)); refine eql24 rfl rfl rfl rfl false qq ?_; (try simp only [Act.put, List.setIfInBounds_toArray, List.set_cons_zero, List.set_cons_succ])) | (go_at_call 25; (with_reducible refine (gangwayref09_word.calls a0_11 true _ A12.out).mono ?_); rintro e w' ⟨rfl, ⟨nd, rfl⟩⟩) | (go_at_call 25; (with_reducible refine (gangwayref09_word.calls a0_12 false _ A14.out).mono ?_); rintro e w' ⟨rfl, ⟨nd, rfl⟩⟩))
        go_meet
        case rel => exact ⟨_, (false), qk, H', ⟨by first | omega | exact Nat.le_refl _⟩, ⟨by (with_reducible repeat (first | refine blk_drewN ?_ _ | refine blk_drew ?_ | refine blk_alloc ?_ _ | refine blk_far ?_ NB366_367.out _)); exact BK366.out⟩, ⟨by (with_reducible repeat (first | refine blk_drewN ?_ _ | refine blk_drew ?_ | refine blk_alloc ?_ _)); exact put16_0_16 qbc⟩, ⟨by repeat (first | (with_reducible first | exact HB.out | apply below_alloc | apply pw_below_drewN | apply below_drew1 | refine below_set ?_ GE366.out | refine below_set ?_ GE367.out) | exact HB.out)⟩⟩
      ·replace c13 := Bool.eq_false_iff.mpr c13
       subst c13
       rw [if_neg (show ¬ (false = true) by decide)] at H
       have H' := Aside0.mk H
       clear H
       have hnb29 := NB366_367.out
       have hnc29 := NB367_366.out
       obtain ⟨hcz30_0, hcz30_1, hcz30_2, hcz30_3, hcz30_4, hcz30_5, hcz30_6, hcz30_7, hcz30_8, hcz30_9, hcz30_10, hcz30_11, hcz30_12, hcz30_13, hcz30_14, hcz30_15⟩ := cells16 BK366.out
       obtain ⟨hfz30_0, hfz30_1, hfz30_2, hfz30_3, hfz30_4, hfz30_5, hfz30_6, hfz30_7, hfz30_8, hfz30_9, hfz30_10, hfz30_11, hfz30_12, hfz30_13, hfz30_14, hfz30_15⟩ := frozen16 BK366.out
       go_wp2_with (first | ((with_reducible refine gate_st (ty := 24) rfl ?_); refine storeC16 rfl rfl rfl rfl rfl qb2 qo qf rfl ?_) | ((with_reducible refine gate_ld (ty := 24) rfl ?_); (try (with_reducible refine gate_gd rfl ?_; refine gate_guard qc8 ?_; dsimp only)); refine load_st rfl rfl rfl qb2 qo Tryd.underlying24 rfl qf ?_; (try simp only [Act.put, List.setIfInBounds_toArray, List.set_cons_zero, List.set_cons_succ])) | ((with_reducible refine gate_eql (ty := 24) rfl ?_); (try (with_reducible refine gate_gd rfl ?_; refine gate_guard qc8 ?_; dsimp only)); refine eql24 rfl rfl rfl rfl true qq ?_; (try simp only [Act.put, List.setIfInBounds_toArray, List.set_cons_zero, List.set_cons_succ])) | ((with_reducible refine gate_eql (ty := 24) rfl ?_); (try (with_reducible refine gate_gd rfl ?_; refine gate_guard qc8 ?_; dsimp only)); refine eql24 rfl rfl rfl rfl false qq ?_; (try simp only [Act.put, List.setIfInBounds_toArray, List.set_cons_zero, List.set_cons_succ])) | (go_at_call 25; (with_reducible refine (gangwayref09_word.calls a0_11 false _ A12.out).mono ?_); rintro e w' ⟨rfl, ⟨nd, rfl⟩⟩))
       go_meet
       case rel => exact ⟨_, (false), qk, H', ⟨by first | omega | exact Nat.le_refl _⟩, ⟨by (with_reducible repeat (first | refine blk_drewN ?_ _ | refine blk_drew ?_ | refine blk_alloc ?_ _ | refine blk_far ?_ NB366_367.out _)); exact BK366.out⟩, ⟨by (with_reducible repeat (first | refine blk_drewN ?_ _ | refine blk_drew ?_ | refine blk_alloc ?_ _)); exact put16_0_16 qbc⟩, ⟨by repeat (first | (with_reducible first | exact HB.out | apply below_alloc | apply pw_below_drewN | apply below_drew1 | refine below_set ?_ GE366.out | refine below_set ?_ GE367.out) | exact HB.out)⟩⟩
     ·rw [if_neg c11] at H
      have c11b0 : decide (a0_9 ≤ 4294967295) = false := decide_eq_false c11
      clear c11
      exact z16_2
    ·rw [if_neg c10] at H
     have c10b0 : decide (0 ≤ a0_9) = false := decide_eq_false c10
     clear c10
     exact z16_2
   ·rw [if_neg c9] at H
    have c9b0 : decide (a0_7 ≤ 3) = false := decide_eq_false c9
    clear c9
    exact z16_2
  ·rw [if_neg c8] at H
   have c8b0 : decide (0 ≤ a0_7) = false := decide_eq_false c8
   clear c8
   (first | rw [c8b0] | (simp only [i64_w, i32_w]; rw [c8b0]) | skip)
   exact z16_2
 case rest =>
  clear HC2
  try clear c1
  try clear c2
  try clear p2
  try clear c3
  try clear c6
  try clear c8
  try clear c8b0
  try clear c9
  try clear c9b0
  try clear c10
  try clear c10b0
  try clear c11
  try clear c11b0
  try clear c12
  try clear c13
  try clear c15
  try clear c17
  try clear c19
  try clear c21
  try clear c23
  try clear c25
  try clear c27
  try clear c29
  try clear c31
  try clear c33
  try clear c35
  try clear c37
  obtain ⟨kq, x4_1, rfl, HA, HJ1, BK366, BK367, HB⟩ := hcut
  cases kq with
  | zero => exact absurd HA.out (by simp [gangwayref09_Check.j0])
  | succ kj1 =>
   have H := HA.out
   clear HA
   simp only [gangwayref09_Check.j0] at H
   have HC39 := Aside0.mk H
   clear H
   go_upto_region 3 with (fail)
   go_cut [99] (fun v99 wc => ∃ (kq : Nat) (x99_38 : Bool), v99 = .bool x99_38 ∧ Aside0 (gangwayref09_Check.j1 kq x99_38 = some r) ∧ Aside0 (kq ≤ kj1) ∧ Aside0 (wc.heap[gb366]? = some (.cells #[.int .i64 a0_0, .bool a0_1, .bool a0_2, .bool a0_3, .bool a0_4, .bool a0_5, .bool a0_6, .int .i64 a0_7, .int .u64 a0_8, .int .i64 a0_9, .int .u64 a0_10, .int .i64 a0_11, .int .i64 a0_12, .int .i64 a0_13, .int .i64 a0_14, .int .i64 a0_15] 24 (0, 0))) ∧ Aside0 (wc.heap[gb367]? = some (.cells #[.int .i64 a0_0, .bool a0_1, .bool false, .bool false, .bool false, .bool false, .bool a0_6, .int .i64 0, .int .u64 a0_8, .int .i64 a0_9, .int .u64 a0_10, .int .i64 a0_11, .int .i64 a0_12, .int .i64 a0_13, .int .i64 a0_14, .int .i64 a0_15] 24 (0, 0))) ∧ Aside0 (Below w.heap.size w wc))
   case first =>
    have H := HC39.out
    clear HC39
    by_cases c40 : a0_0 = 128
    ·rw [if_pos c40] at H
     have c40b0 : (a0_0 == 128) = true := beq_iff_eq.mpr c40
     have c40b1 : (a0_0 != 128) = false := bne_eq_false_iff_eq.mpr c40
     clear c40
     (first | rw [c40b0] | (simp only [i64_w, i32_w]; rw [c40b0]) | skip)
     by_cases c41 : (a0_0 == 128 && (!a0_1 && (!a0_2 && (!a0_3 && (!a0_4 && (!a0_5 && (!a0_6 && (a0_7 == 0 && (a0_8 == 0 && (a0_9 == 0 && (a0_10 == 0 && (a0_11 == 0 && (a0_12 == 0 && (a0_13 == 0 && (a0_14 == 0 && (a0_15 == 0)))))))))))))))) = true
     ·rw [if_pos c41] at H
      have c41b0 : (a0_0 == 128 && (!a0_1 && (!a0_2 && (!a0_3 && (!a0_4 && (!a0_5 && (!a0_6 && (a0_7 == 0 && (a0_8 == 0 && (a0_9 == 0 && (a0_10 == 0 && (a0_11 == 0 && (a0_12 == 0 && (a0_13 == 0 && (a0_14 == 0 && (a0_15 == 0)))))))))))))))) = true := c41
      clear c41
      have H' := Aside0.mk H
      clear H
      have hnb42 := NB366_367.out
      have hnc42 := NB367_366.out
      obtain ⟨hcz43_0, hcz43_1, hcz43_2, hcz43_3, hcz43_4, hcz43_5, hcz43_6, hcz43_7, hcz43_8, hcz43_9, hcz43_10, hcz43_11, hcz43_12, hcz43_13, hcz43_14, hcz43_15⟩ := cells16 BK366.out
      obtain ⟨hfz43_0, hfz43_1, hfz43_2, hfz43_3, hfz43_4, hfz43_5, hfz43_6, hfz43_7, hfz43_8, hfz43_9, hfz43_10, hfz43_11, hfz43_12, hfz43_13, hfz43_14, hfz43_15⟩ := frozen16 BK366.out
      exact z16_1
     ·rw [if_neg c41] at H
      have c41b0 : (a0_0 == 128 && (!a0_1 && (!a0_2 && (!a0_3 && (!a0_4 && (!a0_5 && (!a0_6 && (a0_7 == 0 && (a0_8 == 0 && (a0_9 == 0 && (a0_10 == 0 && (a0_11 == 0 && (a0_12 == 0 && (a0_13 == 0 && (a0_14 == 0 && (a0_15 == 0)))))))))))))))) = false := by simpa using c41
      (try (have c41b3 : ¬ (a0_0 = 128 && (!a0_1 && (!a0_2 && (!a0_3 && (!a0_4 && (!a0_5 && (!a0_6 && (a0_7 == 0 && (a0_8 == 0 && (a0_9 == 0 && (a0_10 == 0 && (a0_11 == 0 && (a0_12 == 0 && (a0_13 == 0 && (a0_14 == 0 && (a0_15 == 0)))))))))))))))) := by simpa using c41))
      clear c41
      by_cases c44 : a0_0 = 0
      ·rw [if_pos c44] at H
       have c44b0 : (a0_0 == 0) = true := beq_iff_eq.mpr c44
       have c44b1 : (a0_0 != 0) = false := bne_eq_false_iff_eq.mpr c44
       clear c44
       by_cases c45 : x4_1 = true
       ·subst c45
        rw [if_pos rfl] at H
        by_cases c46 : (a0_0 == a0_0 && (a0_1 == a0_1 && (a0_2 == false && (a0_3 == false && (a0_4 == false && (a0_5 == false && (a0_6 == a0_6 && (a0_7 == 0 && (a0_8 == a0_8 && (a0_9 == a0_9 && (a0_10 == a0_10 && (a0_11 == a0_11 && (a0_12 == a0_12 && (a0_13 == a0_13 && (a0_14 == a0_14 && (a0_15 == a0_15)))))))))))))))) = true
        ·rw [if_pos c46] at H
         have c46b0 : (a0_0 == a0_0 && (a0_1 == a0_1 && (a0_2 == false && (a0_3 == false && (a0_4 == false && (a0_5 == false && (a0_6 == a0_6 && (a0_7 == 0 && (a0_8 == a0_8 && (a0_9 == a0_9 && (a0_10 == a0_10 && (a0_11 == a0_11 && (a0_12 == a0_12 && (a0_13 == a0_13 && (a0_14 == a0_14 && (a0_15 == a0_15)))))))))))))))) = true := c46
         clear c46
         exact z16_4
        ·rw [if_neg c46] at H
         have c46b0 : (a0_0 == a0_0 && (a0_1 == a0_1 && (a0_2 == false && (a0_3 == false && (a0_4 == false && (a0_5 == false && (a0_6 == a0_6 && (a0_7 == 0 && (a0_8 == a0_8 && (a0_9 == a0_9 && (a0_10 == a0_10 && (a0_11 == a0_11 && (a0_12 == a0_12 && (a0_13 == a0_13 && (a0_14 == a0_14 && (a0_15 == a0_15)))))))))))))))) = false := by simpa using c46
         (try (have c46b3 : ¬ (a0_0 = a0_0 && (a0_1 == a0_1 && (a0_2 == false && (a0_3 == false && (a0_4 == false && (a0_5 == false && (a0_6 == a0_6 && (a0_7 == 0 && (a0_8 == a0_8 && (a0_9 == a0_9 && (a0_10 == a0_10 && (a0_11 == a0_11 && (a0_12 == a0_12 && (a0_13 == a0_13 && (a0_14 == a0_14 && (a0_15 == a0_15)))))))))))))))) := by simpa using c46))
         clear c46
         exact z16_7
       ·replace c45 := Bool.eq_false_iff.mpr c45
        subst c45
        exact z16_9
      ·rw [if_neg c44] at H
       have c44b0 : (a0_0 == 0) = false := beq_eq_false_iff_ne.mpr c44
       have c44b1 : (a0_0 != 0) = true := bne_iff_ne.mpr c44
       exact z16_3
    ·rw [if_neg c40] at H
     have c40b0 : (a0_0 == 128) = false := beq_eq_false_iff_ne.mpr c40
     have c40b1 : (a0_0 != 128) = true := bne_iff_ne.mpr c40
     (first | rw [c40b0] | (simp only [i64_w, i32_w]; rw [c40b0]) | skip)
     by_cases c67 : a0_0 = 0
     ·rw [if_pos c67] at H
      have c67b0 : (a0_0 == 0) = true := beq_iff_eq.mpr c67
      have c67b1 : (a0_0 != 0) = false := bne_eq_false_iff_eq.mpr c67
      clear c67
      by_cases c68 : x4_1 = true
      ·subst c68
       rw [if_pos rfl] at H
       by_cases c69 : (a0_0 == a0_0 && (a0_1 == a0_1 && (a0_2 == false && (a0_3 == false && (a0_4 == false && (a0_5 == false && (a0_6 == a0_6 && (a0_7 == 0 && (a0_8 == a0_8 && (a0_9 == a0_9 && (a0_10 == a0_10 && (a0_11 == a0_11 && (a0_12 == a0_12 && (a0_13 == a0_13 && (a0_14 == a0_14 && (a0_15 == a0_15)))))))))))))))) = true
       ·rw [if_pos c69] at H
        have c69b0 : (a0_0 == a0_0 && (a0_1 == a0_1 && (a0_2 == false && (a0_3 == false && (a0_4 == false && (a0_5 == false && (a0_6 == a0_6 && (a0_7 == 0 && (a0_8 == a0_8 && (a0_9 == a0_9 && (a0_10 == a0_10 && (a0_11 == a0_11 && (a0_12 == a0_12 && (a0_13 == a0_13 && (a0_14 == a0_14 && (a0_15 == a0_15)))))))))))))))) = true := c69
        clear c69
        exact z16_4
       ·rw [if_neg c69] at H
        have c69b0 : (a0_0 == a0_0 && (a0_1 == a0_1 && (a0_2 == false && (a0_3 == false && (a0_4 == false && (a0_5 == false && (a0_6 == a0_6 && (a0_7 == 0 && (a0_8 == a0_8 && (a0_9 == a0_9 && (a0_10 == a0_10 && (a0_11 == a0_11 && (a0_12 == a0_12 && (a0_13 == a0_13 && (a0_14 == a0_14 && (a0_15 == a0_15)))))))))))))))) = false := by simpa using c69
        (try (have c69b3 : ¬ (a0_0 = a0_0 && (a0_1 == a0_1 && (a0_2 == false && (a0_3 == false && (a0_4 == false && (a0_5 == false && (a0_6 == a0_6 && (a0_7 == 0 && (a0_8 == a0_8 && (a0_9 == a0_9 && (a0_10 == a0_10 && (a0_11 == a0_11 && (a0_12 == a0_12 && (a0_13 == a0_13 && (a0_14 == a0_14 && (a0_15 == a0_15)))))))))))))))) := by simpa using c69))
        clear c69
        exact z16_7
      ·replace c68 := Bool.eq_false_iff.mpr c68
       subst c68
       exact z16_9
     ·rw [if_neg c67] at H
      have c67b0 : (a0_0 == 0) = false := beq_eq_false_iff_ne.mpr c67
      have c67b1 : (a0_0 != 0) = true := bne_iff_ne.mpr c67
      exact z16_3
   case rest =>
    clear HC39
    try clear p2
    try clear c4
    try clear c5
    try clear c6
    try clear c7
    try clear c8
    try clear c40
    try clear c40b0
    try clear c40b1
    try clear c44
    try clear c44b0
    try clear c44b1
    try clear c57
    try clear c57b0
    try clear c57b1
    try clear c58
    try clear c60
    try clear c62
    try clear c62b0
    try clear c62b1
    try clear c63
    try clear c65
    try clear c67
    try clear c67b0
    try clear c67b1
    try clear c68
    try clear c69
    try clear c69b0
    try clear c69b1
    try clear c69b2
    try clear c70
    try clear c73
    try clear c73b0
    try clear c73b1
    try clear c74
    try clear c77
    try clear c80
    try clear c80b0
    try clear c80b1
    try clear c81
    try clear c83
    try clear c85
    try clear c85b0
    try clear c85b1
    try clear c86
    try clear c88
    obtain ⟨kq, x99_38, rfl, HA, HJ38, BK366, BK367, HB⟩ := hcut
    cases kq with
    | zero => exact absurd HA.out (by simp [gangwayref09_Check.j1])
    | succ kj38 =>
     have H := HA.out
     clear HA
     simp only [gangwayref09_Check.j1] at H
     by_cases c90 : x99_38 = true
     ·subst c90
      rw [if_pos rfl] at H
      exact z16_5
     ·replace c90 := Bool.eq_false_iff.mpr c90
      subst c90
      rw [if_neg (show ¬ (false = true) by decide)] at H
      exact z16_5
end Go.Proofs.YtbfjlhjfpmgplaaDoor.P
