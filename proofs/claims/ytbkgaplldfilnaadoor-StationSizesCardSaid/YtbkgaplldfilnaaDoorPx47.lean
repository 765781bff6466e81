-- slim
-- Written by wip/hprint.py (this session's program) through the kit's print program; hand contracts are marked 'by hand'.
import Derived.Test.YtbkgaplldfilnaaDoorAbb
import Derived.Test.YtbkgaplldfilnaaDoorRow
import Derived.Test.YtbkgaplldfilnaaDoorPx0
import Derived.Test.YtbkgaplldfilnaaDoorPx35
import Derived.Test.YtbkgaplldfilnaaDoorPx36
namespace Go.Proofs.YtbkgaplldfilnaaDoor.P
open Go.RowKit Go.Proofs.YtbkgaplldfilnaaDoorW.PrintWords Go.Proofs.YtbkgaplldfilnaaDoorW.PrintLast Go.Proofs.YtbkgaplldfilnaaDoorW.PrintMore
attribute [local go_sem] max2_int min2_int max_two min_two max_three min_three max_four min_four   -- for this text's walks alone
set_option linter.unusedVariables false
set_option linter.unusedSimpArgs false

/-! ### gangwaylaw20_StationSizes: function 7 -/
mutual
def gangwaylaw20_StationSizes.j0 : Nat → Int → Int → Int → Int → Int → Int → Bool → ByteArray → Option (Bool)
 | 0, _, _, _, _, _, _, _, _ => none
 | k + 1, x702000, x702001, x702002, x702003, x703000, x703001, x703002, x703003 => (station_Make.f k x702000 x702001 x703000 x703001 x703002 x703003 x702002 (wrap64 (28 + (x703003.size : Int)))).bind fun bt703 => ((station_Make.f k x702000 x702001 x703000 x703001 x703002 x703003 x702002 (wrap64 ((wrap64 (28 + (x703003.size : Int))) - 1))).bind fun bt705 => (gangwaylaw20_StationSizes.j1 k (wrap64 (28 + (x703003.size : Int))) bt703.1 bt703.2 bt705.1 bt705.2))
def gangwaylaw20_StationSizes.j1 : Nat → Int → ByteArray → Int → ByteArray → Int → Option (Bool)
 | 0, _, _, _, _, _ => none
 | k + 1, x5, x6, x7, x8, x9 => if x7 = 0 then (if (x6.size : Int) = x5 then (if x9 = 201 then (if x8.toList = ([] : List UInt8) then ((gangwaylaw20_fixed.f k).bind fun t707 => (some t707)) else (none)) else (none)) else (none)) else (if x6.toList = ([] : List UInt8) then (if x8.toList = ([] : List UInt8) then (if x9 = x7 then ((gangwaylaw20_fixed.f k).bind fun t708 => (some t708)) else (none)) else (none)) else (none))
end
def gangwaylaw20_StationSizes.f (k : Nat) (a0_0 : Int) (a0_1 : Int) (a0_2 : Int) (a0_3 : Int) (a1_0 : Int) (a1_1 : Int) (a1_2 : Bool) (a1_3 : ByteArray) : Option (Bool) := if 0 ≤ (mn (a1_3.size : Int) 1700) then (if (mn (a1_3.size : Int) 1700) ≤ (a1_3.size : Int) then (gangwaylaw20_StationSizes.j0 k a0_0 a0_1 a0_2 a0_3 a1_0 a1_1 a1_2 (a1_3.extract 0 ((mn (a1_3.size : Int) 1700) : Int).toNat)) else (none)) else (none)
theorem gangwaylaw20_StationSizes.mono_l : ∀ k, (∀ y0 y1 y2 y3 y4 y5 y6 y7, LeO (gangwaylaw20_StationSizes.j0 k y0 y1 y2 y3 y4 y5 y6 y7) (gangwaylaw20_StationSizes.j0 (k + 1) y0 y1 y2 y3 y4 y5 y6 y7)) ∧ (∀ y0 y1 y2 y3 y4, LeO (gangwaylaw20_StationSizes.j1 k y0 y1 y2 y3 y4) (gangwaylaw20_StationSizes.j1 (k + 1) y0 y1 y2 y3 y4))
 | 0 => ⟨fun _ _ _ _ _ _ _ _ r h => by simp [gangwaylaw20_StationSizes.j0] at h, fun _ _ _ _ _ r h => by simp [gangwaylaw20_StationSizes.j1] at h⟩
 | k + 1 => by
  obtain ⟨ih0, ih1⟩ := gangwaylaw20_StationSizes.mono_l k
  refine ⟨?_, ?_⟩
  ·intro y0 y1 y2 y3 y4 y5 y6 y7
   unfold gangwaylaw20_StationSizes.j0
   repeat' first
   | (with_reducible exact ih0 _ _ _ _ _ _ _ _)
   | (with_reducible exact ih1 _ _ _ _ _)
   | (with_reducible exact gangwaylaw20_fixed.mono _)
   | (with_reducible exact station_Make.mono _ _ _ _ _ _ _ _ _)
   | (with_reducible exact LeO.refl _)
   | (with_reducible exact LeO.none _)
   | (with_reducible refine LeO.ite ?_ ?_)
   | (with_reducible refine LeO.bind ?_ (fun _ => ?_))
   | exact ih0 _ _ _ _ _ _ _ _
   | exact ih1 _ _ _ _ _
   | exact gangwaylaw20_fixed.mono _
   | exact station_Make.mono _ _ _ _ _ _ _ _ _
   | exact LeO.none _
   | refine LeO.ite ?_ ?_
   | refine LeO.bind ?_ (fun _ => ?_)
  ·intro y0 y1 y2 y3 y4
   unfold gangwaylaw20_StationSizes.j1
   repeat' first
   | (with_reducible exact ih0 _ _ _ _ _ _ _ _)
   | (with_reducible exact ih1 _ _ _ _ _)
   | (with_reducible exact gangwaylaw20_fixed.mono _)
   | (with_reducible exact station_Make.mono _ _ _ _ _ _ _ _ _)
   | (with_reducible exact LeO.refl _)
   | (with_reducible exact LeO.none _)
   | (with_reducible refine LeO.ite ?_ ?_)
   | (with_reducible refine LeO.bind ?_ (fun _ => ?_))
   | exact ih0 _ _ _ _ _ _ _ _
   | exact ih1 _ _ _ _ _
   | exact gangwaylaw20_fixed.mono _
   | exact station_Make.mono _ _ _ _ _ _ _ _ _
   | exact LeO.none _
   | refine LeO.ite ?_ ?_
   | refine LeO.bind ?_ (fun _ => ?_)
theorem gangwaylaw20_StationSizes.mono : ∀ a0 a1 a2 a3 a4 a5 a6 a7 k, LeO (gangwaylaw20_StationSizes.f k a0 a1 a2 a3 a4 a5 a6 a7) (gangwaylaw20_StationSizes.f (k + 1) a0 a1 a2 a3 a4 a5 a6 a7) := by
 intro a0 a1 a2 a3 a4 a5 a6 a7 k
 obtain ⟨ih0, ih1⟩ := gangwaylaw20_StationSizes.mono_l k
 unfold gangwaylaw20_StationSizes.f
 repeat' first
   | (with_reducible exact ih0 _ _ _ _ _ _ _ _)
   | (with_reducible exact ih1 _ _ _ _ _)
   | (with_reducible exact gangwaylaw20_fixed.mono _)
   | (with_reducible exact station_Make.mono _ _ _ _ _ _ _ _ _)
   | (with_reducible exact LeO.refl _)
   | (with_reducible exact LeO.none _)
   | (with_reducible refine LeO.ite ?_ ?_)
   | (with_reducible refine LeO.bind ?_ (fun _ => ?_))
   | exact ih0 _ _ _ _ _ _ _ _
   | exact ih1 _ _ _ _ _
   | exact gangwaylaw20_fixed.mono _
   | exact station_Make.mono _ _ _ _ _ _ _ _ _
   | exact LeO.none _
   | refine LeO.ite ?_ ?_
   | refine LeO.bind ?_ (fun _ => ?_)
theorem z47_0 {p : Prop} (h : p := by
 replace H := Option.bind_eq_some_iff.mp H
 obtain ⟨tz0, Az1, H⟩ := H
 try dsimp only at H
 have Az2 := Aside0.mk Az1
 clear Az1
 obtain rfl := Option.some.inj H
 go_wp2_with (first | (go_at_call 10; (with_reducible refine (gangwaylaw20_fixed.calls kj11  tz0 _ ?sideL Az2.out).mono ?_); (case sideL => exact laid_below HLD.out qeaa); rintro e wz3 ⟨rfl, hb⟩; replace BK701 := Aside0.mk (blk_below (g := gb701) qeak hb); replace BK702 := Aside0.mk (blk_below (g := gb702) qwdf hb); replace HB := Aside0.mk (below_step qeaa hb); obtain ⟨hcyz4_701_0, hcyz4_701_1, hcyz4_701_2, hcyz4_701_3⟩ := cells4 BK701.out; (try clear hb); (try clear hb2); (try clear hk); (try clear hi)))
 go_ret
 exact ⟨qxu5, qeaa⟩) : p := h
set_option maxHeartbeats 8000000 in
set_option maxRecDepth 100000 in
theorem gangwaylaw20_StationSizes.calls (k : Nat) (a0_0 : Int) (a0_1 : Int) (a0_2 : Int) (a0_3 : Int) (a1_0 : Int) (a1_1 : Int) (a1_2 : Bool) (a1_3 : ByteArray) (r : Bool) (w : World) (hL : Laid w) (h : gangwaylaw20_StationSizes.f k a0_0 a0_1 a0_2 a0_3 a1_0 a1_1 a1_2 a1_3 = some r) :
  Calls Tryd.prog 7 #[.agg #[.int .u32 a0_0, .int .u32 a0_1, .int .i64 a0_2, .int .i64 a0_3], .agg #[.int .i64 a1_0, .int .i64 a1_1, .bool a1_2, .string a1_3]] w fun e w' => e = .returned (.bool r) ∧ Below w.heap.size w w' := by
 have HLD := Aside0.mk hL
 clear hL
 have hu41 := Tryd.underlying41
 have hu31 := Tryd.underlying31
 have HB := Aside0.mk (Below.refl w.heap.size w)
 have H : (if 0 ≤ (mn (a1_3.size : Int) 1700) then (if (mn (a1_3.size : Int) 1700) ≤ (a1_3.size : Int) then (gangwaylaw20_StationSizes.j0 k a0_0 a0_1 a0_2 a0_3 a1_0 a1_1 a1_2 (a1_3.extract 0 ((mn (a1_3.size : Int) 1700) : Int).toNat)) else (none)) else (none)) = some r := h
 clear h
 have HC3 := Aside0.mk H
 clear H
 go_enter Tryd.func7, Tryd.ntmps7
 go_upto_region 1 with (first | ((with_reducible refine gate_dst (N := 2) rfl ?_); refine box_event qgcr (N := 2) qgcr (cs := #[.int .u32 a0_0, .int .u32 a0_1, .int .i64 a0_2, .int .i64 a0_3]) (t := 41) qlto ?_; intro gb701 hg w4 hbox hb; have BK701 := Aside0.mk (hbox); have GE701 := Aside0.mk ((qisx : w.heap.size ≤ gb701)); replace HB := Aside0.mk (below_step qpag hb); clear hb hbox hg) | ((with_reducible refine gate_dst (N := 3) rfl ?_); refine box_event qgcr (N := 3) qgcr (cs := #[.int .i64 a1_0, .int .i64 a1_1, .bool a1_2, .string a1_3]) (t := 31) qlto ?_; intro gb702 hg w5 hbox hb; have BK702 := Aside0.mk (hbox); have GE702 := Aside0.mk ((by rw [hg]; exact (below_size qvf9) : w.heap.size ≤ gb702)); have NB701_702 := Aside0.mk ((by rw [hg]; exact Nat.ne_of_lt (blk_lt (g := gb701) qeak) : gb701 ≠ gb702)); have NB702_701 := Aside0.mk ((by rw [hg]; exact Nat.ne_of_gt (blk_lt (g := gb701) qeak) : gb702 ≠ gb701)); replace BK701 := Aside0.mk (blk_below (g := gb701) qeak hb); replace HB := Aside0.mk (below_step qvf9 hb); clear hb hbox hg))
 (try simp only [Act.put, List.setIfInBounds_toArray, List.set_cons_zero, List.set_cons_succ])
 go_cut [] (fun wc => ∃ (kq : Nat) (x703003_2 : ByteArray), Aside0 (gangwaylaw20_StationSizes.j0 kq a0_0 a0_1 a0_2 a0_3 a1_0 a1_1 a1_2 x703003_2 = some r) ∧ Aside0 (kq ≤ k) ∧ Aside0 (wc.heap[gb701]? = some (.cells #[.int .u32 a0_0, .int .u32 a0_1, .int .i64 a0_2, .int .i64 a0_3] 41 (0, 0))) ∧ Aside0 (wc.heap[gb702]? = some (.cells #[.int .i64 a1_0, .int .i64 a1_1, .bool a1_2, .string x703003_2] 31 (0, 0))) ∧ Aside0 (Below w.heap.size w wc))
 case first =>
  have H := HC3.out
  clear HC3
  obtain ⟨ji6, hji6⟩ : ∃ j_ : Int, (mn (a1_3.size : Int) 1700) = j_ := ⟨_, rfl⟩
  replace H : (if 0 ≤ (ji6) then (if (ji6) ≤ (a1_3.size : Int) then (gangwaylaw20_StationSizes.j0 k a0_0 a0_1 a0_2 a0_3 a1_0 a1_1 a1_2 (a1_3.extract 0 ((ji6) : Int).toNat)) else (none)) else (none)) = some r := by first | (rw [hji6] at H; exact H) | (simp only [hji6] at H ⊢; exact H)
  (try (have hji6h : ji6 ≤ 1700 := by (rw [← hji6]; unfold mn; (repeat' split) <;> omega)))
  (try (have hji6g : ji6 ≤ 64 := by omega))
  (try (have hji6l : 0 ≤ ji6 := by (rw [← hji6]; unfold mn; (repeat' split) <;> omega)))
  (try (have hji6m : 0 ≤ ji6 := by omega))
  have hji6_ : (if 1700 < (a1_3.size : Int) then 1700 else (a1_3.size : Int)) = ji6 := hji6
  by_cases c7 : 0 ≤ (ji6)
  ·rw [if_pos c7] at H
   have c7b0 := eq_true c7
   have c7b1 : decide (0 ≤ (ji6)) = true := decide_eq_true c7
   clear c7
   by_cases c8 : (ji6) ≤ (a1_3.size : Int)
   ·rw [if_pos c8] at H
    have c8b0 := eq_true c8
    have c8b1 : decide ((ji6) ≤ (a1_3.size : Int)) = true := decide_eq_true c8
    clear c8
    have H' := Aside0.mk H
    clear H
    have hnb9 := NB702_701.out
    have hnc9 := NB701_702.out
    obtain ⟨hcz10_0, hcz10_1, hcz10_2, hcz10_3⟩ := cells4 BK702.out
    obtain ⟨hfz10_0, hfz10_1, hfz10_2, hfz10_3⟩ := frozen4 BK702.out
    go_wp2
    go_meet
    case rel => exact ⟨_, (a1_3.extract 0 ((ji6) : Int).toNat), H', ⟨qpfc⟩, ⟨(by (with_reducible repeat (first | refine blk_drewN ?_ _ | refine blk_drew ?_ | refine blk_alloc ?_ _ | refine blk_far ?_ NB701_702.out _)); exact BK701.out)⟩, ⟨(by (with_reducible repeat (first | refine blk_drewN ?_ _ | refine blk_drew ?_ | refine blk_alloc ?_ _)); refine blk_put (cs := #[.int .i64 a1_0, .int .i64 a1_1, .bool a1_2, .string a1_3]) ?_ 3 _ rfl; (with_reducible repeat (first | refine blk_drewN ?_ _ | refine blk_drew ?_ | refine blk_alloc ?_ _)); exact BK702.out)⟩, ⟨qeaa⟩⟩
   ·rw [if_neg c8] at H
    exact absurd H q6hr
  ·rw [if_neg c7] at H
   exact absurd H q6hr
 case rest =>
  clear HC3
  try clear p2
  try clear c7
  try clear c7b0
  try clear c7b1
  try clear c8
  try clear c8b0
  try clear c8b1
  try clear c9
  obtain ⟨kq, x703003_2, HA, HJ2, BK701, BK702, HB⟩ := hcut
  cases kq with
  | zero => exact absurd HA.out (by simp [gangwaylaw20_StationSizes.j0])
  | succ kj2 =>
   have H := HA.out
   clear HA
   simp only [gangwaylaw20_StationSizes.j0] at H
   replace H := Option.bind_eq_some_iff.mp H
   obtain ⟨⟨t703, t704⟩, A110, H⟩ := H
   try dsimp only at H
   have A11 := Aside0.mk A110
   clear A110
   have HC12 := Aside0.mk H
   clear H
   have hnb13 := NB702_701.out
   have hnc13 := NB701_702.out
   obtain ⟨hcz14_0, hcz14_1, hcz14_2, hcz14_3⟩ := cells4 BK702.out
   obtain ⟨hfz14_0, hfz14_1, hfz14_2, hfz14_3⟩ := frozen4 BK702.out
   obtain ⟨hcz15_0, hcz15_1, hcz15_2, hcz15_3⟩ := cells4 BK701.out
   obtain ⟨hfz15_0, hfz15_1, hfz15_2, hfz15_3⟩ := frozen4 BK701.out
   go_upto_region 4 with (first | ((with_reducible refine gate_callee (f := 11) rfl ?_); refine goesL_ (some 31) rfl rfl Tryd.func11 qg3m rfl #[.int .u32 a0_0, .int .u32 a0_1, .agg #[.int .i64 a1_0, .int .i64 a1_1, .bool a1_2, .string x703003_2], .int .i64 a0_2, .int .i64 (wrap64 (28 + (x703003_2.size : Int)))] rfl qraq ?_; (with_reducible refine (station_Make.calls kj2 a0_0 a0_1 a1_0 a1_1 a1_2 x703003_2 a0_2 (wrap64 (28 + (x703003_2.size : Int))) t703 t704 _ A11.out).mono ?_); rintro e w16 ⟨rfl, hb⟩; refine ⟨_, rfl, ?_⟩; replace BK701 := Aside0.mk (blk_below (g := gb701) qeak hb); replace BK702 := Aside0.mk (blk_below (g := gb702) qwdf hb); replace HB := Aside0.mk (below_step qeaa hb); (try clear hb); (try clear hb2); (try clear hk); (try clear hi)))
   (try simp only [Act.put, List.setIfInBounds_toArray, List.set_cons_zero, List.set_cons_succ])
   go_cut [8, 9] (fun v8 v9 wc => ∃ (kq : Nat) (x8_11 : ByteArray) (x9_11 : Int), v8 = .string x8_11 ∧ v9 = .int .i64 x9_11 ∧ Aside0 (gangwaylaw20_StationSizes.j1 kq (wrap64 (28 + (x703003_2.size : Int))) t703 t704 x8_11 x9_11 = some r) ∧ Aside0 (kq ≤ kj2) ∧ Aside0 (wc.heap[gb701]? = some (.cells #[.int .u32 a0_0, .int .u32 a0_1, .int .i64 a0_2, .int .i64 a0_3] 41 (0, 0))) ∧ Aside0 (wc.heap[gb702]? = some (.cells #[.int .i64 a1_0, .int .i64 a1_1, .bool a1_2, .string x703003_2] 31 (0, 0))) ∧ Aside0 (Below w.heap.size w wc))
   case first =>
    have H := HC12.out
    clear HC12
    replace H := Option.bind_eq_some_iff.mp H
    obtain ⟨⟨t705, t706⟩, A170, H⟩ := H
    try dsimp only at H
    have A17 := Aside0.mk A170
    clear A170
    have H' := Aside0.mk H
    clear H
    have hnb18 := NB701_702.out
    have hnc18 := NB702_701.out
    obtain ⟨hcz19_0, hcz19_1, hcz19_2, hcz19_3⟩ := cells4 BK701.out
    obtain ⟨hfz19_0, hfz19_1, hfz19_2, hfz19_3⟩ := frozen4 BK701.out
    obtain ⟨hcz20_0, hcz20_1, hcz20_2, hcz20_3⟩ := cells4 BK702.out
    obtain ⟨hfz20_0, hfz20_1, hfz20_2, hfz20_3⟩ := frozen4 BK702.out
    go_wp2_with (first | ((with_reducible refine gate_callee (f := 11) rfl ?_); refine goesL_ (some 44) rfl rfl Tryd.func11 qg3m rfl #[.int .u32 a0_0, .int .u32 a0_1, .agg #[.int .i64 a1_0, .int .i64 a1_1, .bool a1_2, .string x703003_2], .int .i64 a0_2, .int .i64 (wrap64 ((wrap64 (28 + (x703003_2.size : Int))) - 1))] rfl qraq ?_; (with_reducible refine (station_Make.calls kj2 a0_0 a0_1 a1_0 a1_1 a1_2 x703003_2 a0_2 (wrap64 ((wrap64 (28 + (x703003_2.size : Int))) - 1)) t705 t706 _ A17.out).mono ?_); rintro e w21 ⟨rfl, hb⟩; refine ⟨_, rfl, ?_⟩; replace BK701 := Aside0.mk (blk_below (g := gb701) qeak hb); replace BK702 := Aside0.mk (blk_below (g := gb702) qwdf hb); replace HB := Aside0.mk (below_step qeaa hb); obtain ⟨hcy1_701_0, hcy1_701_1, hcy1_701_2, hcy1_701_3⟩ := cells4 BK701.out; (try clear hb); (try clear hb2); (try clear hk); (try clear hi)))
    go_meet
    case rel => exact ⟨_, (t705), (t706), q8z4, q8z4, H', ⟨(by have := HJ2.out; first | omega | exact Nat.le_refl _)⟩, ⟨qeak⟩, ⟨qwdf⟩, ⟨qeaa⟩⟩
   case rest =>
    clear HC12
    try clear c1
    try clear p2
    try clear p6
    try clear c7
    try clear c7b0
    try clear c7b1
    try clear c8
    try clear c8b0
    try clear c8b1
    try clear c9
    try clear c11
    try clear c13
    try clear c18
    try clear p2
    obtain ⟨kq, x8_11, x9_11, rfl, rfl, HA, HJ11, BK701, BK702, HB⟩ := hcut
    cases kq with
    | zero => exact absurd HA.out (by simp [gangwaylaw20_StationSizes.j1])
    | succ kj11 =>
     have H := HA.out
     clear HA
     simp only [gangwaylaw20_StationSizes.j1] at H
     by_cases c22 : t704 = 0
     ·rw [if_pos c22] at H
      have c22b0 : (t704 == 0) = true := beq_iff_eq.mpr c22
      have c22b1 : (t704 != 0) = false := bne_eq_false_iff_eq.mpr c22
      clear c22
      by_cases c23 : (t703.size : Int) = (wrap64 (28 + (x703003_2.size : Int)))
      ·rw [if_pos c23] at H
       have c23b0 : ((t703.size : Int) == (wrap64 (28 + (x703003_2.size : Int)))) = true := beq_iff_eq.mpr c23
       try (have c23s0 : (t703.size : Int) = 28 + (x703003_2.size : Int) := (by have h_ := c23; unfold wrap64 at h_; omega); have c23s1 := eq_true c23s0; have c23s2 : ((t703.size : Int) == 28 + (x703003_2.size : Int)) = true := beq_iff_eq.mpr c23s0; clear c23s0)
       have c23b1 : ((t703.size : Int) != (wrap64 (28 + (x703003_2.size : Int)))) = false := bne_eq_false_iff_eq.mpr c23
       clear c23
       by_cases c24 : x9_11 = 201
       ·rw [if_pos c24] at H
        have c24b0 : (x9_11 == 201) = true := beq_iff_eq.mpr c24
        have c24b1 : (x9_11 != 201) = false := bne_eq_false_iff_eq.mpr c24
        clear c24
        by_cases c25 : x8_11.toList = ([] : List UInt8)
        ·rw [if_pos c25] at H
         have c25b0 : (x8_11.toList == ([] : List UInt8)) = true := beq_iff_eq.mpr c25
         have c25b1 : (x8_11.toList != ([] : List UInt8)) = false := bne_eq_false_iff_eq.mpr c25
         clear c25
         exact z47_0
        ·rw [if_neg c25] at H
         exact absurd H q6hr
       ·rw [if_neg c24] at H
        exact absurd H q6hr
      ·rw [if_neg c23] at H
       exact absurd H q6hr
     ·rw [if_neg c22] at H
      have c22b0 : (t704 == 0) = false := beq_eq_false_iff_ne.mpr c22
      have c22b1 : (t704 != 0) = true := bne_iff_ne.mpr c22
      by_cases c28 : t703.toList = ([] : List UInt8)
      ·rw [if_pos c28] at H
       have c28b0 : (t703.toList == ([] : List UInt8)) = true := beq_iff_eq.mpr c28
       have c28b1 : (t703.toList != ([] : List UInt8)) = false := bne_eq_false_iff_eq.mpr c28
       clear c28
       by_cases c29 : x8_11.toList = ([] : List UInt8)
       ·rw [if_pos c29] at H
        have c29b0 : (x8_11.toList == ([] : List UInt8)) = true := beq_iff_eq.mpr c29
        have c29b1 : (x8_11.toList != ([] : List UInt8)) = false := bne_eq_false_iff_eq.mpr c29
        clear c29
        by_cases c30 : x9_11 = t704
        ·rw [if_pos c30] at H
         have c30b0 : (x9_11 == t704) = true := beq_iff_eq.mpr c30
         have c30b1 : (x9_11 != t704) = false := bne_eq_false_iff_eq.mpr c30
         clear c30
         exact z47_0
        ·rw [if_neg c30] at H
         exact absurd H q6hr
       ·rw [if_neg c29] at H
        exact absurd H q6hr
      ·rw [if_neg c28] at H
       exact absurd H q6hr
end Go.Proofs.YtbkgaplldfilnaaDoor.P
