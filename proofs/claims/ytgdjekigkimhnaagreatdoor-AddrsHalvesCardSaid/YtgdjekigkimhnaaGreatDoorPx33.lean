-- slim
import Derived.Test.YtgdjekigkimhnaaGreatDoorAbb
import Derived.Test.YtgdjekigkimhnaaGreatDoorPx0
import Derived.Test.YtgdjekigkimhnaaGreatDoorPx17
import Derived.Test.YtgdjekigkimhnaaGreatDoorPx18
import Derived.Test.YtgdjekigkimhnaaGreatDoorPx19
import Derived.Test.YtgdjekigkimhnaaGreatDoorPx20
import Derived.Test.YtgdjekigkimhnaaGreatDoorPx21
-- Written by wip/hprint.py (this session's program) through the kit's print program; hand contracts are marked 'by hand'.
namespace Go.Proofs.YtgdjekigkimhnaaGreatDoor.P
open Go.RowKit Go.Proofs.YtgdjekigkimhnaaGreatDoorW.PrintWords Go.Proofs.YtgdjekigkimhnaaGreatDoorW.PrintLast Go.Proofs.YtgdjekigkimhnaaGreatDoorW.PrintMore
attribute [local go_sem] max2_int min2_int max_two min_two max_three min_three max_four min_four   -- for this text's walks alone
set_option linter.unusedVariables false
set_option linter.unusedSimpArgs false

/-! ### gangwaylaw02_AddrsHalves: function 7 -/
def gangwaylaw02_AddrsHalves.j0 : Nat → Int → Bool → Int → Int → Option (Bool)
 | 0, _, _, _, _ => none
 | k + 1, x1, x16, x303000, x303001 => if x16 = true then ((gangwaylaw02_fixed.f k).bind fun t304 => (some t304)) else (if 0 ≤ (wrap64 (31 - x303001)) then ((addrs_In.f k x303000 (wrap64 (x303001 + 1)) x1).bind fun t307 => ((addrs_In.f k (Go.bits .or .u32 x303000 (shl .u32 1 (wrap64 (31 - x303001)))) (wrap64 (x303001 + 1)) x1).bind fun t308 => ((addrs_Net.f k x303000 (wrap64 (x303001 + 1))).bind fun t309 => (if t309 = true then ((addrs_Net.f k (Go.bits .or .u32 x303000 (shl .u32 1 (wrap64 (31 - x303001)))) (wrap64 (x303001 + 1))).bind fun t310 => (if t310 = true then (if t307 = true then (if t308 = true then (none) else ((addrs_In.f k x303000 x303001 x1).bind fun t311 => (if (t311 == true) = true then ((addrs_Last.f k (Go.bits .or .u32 x303000 (shl .u32 1 (wrap64 (31 - x303001)))) (wrap64 (x303001 + 1))).bind fun t312 => ((addrs_Last.f k x303000 x303001).bind fun t313 => (if t312 = t313 then ((addrs_Last.f k x303000 (wrap64 (x303001 + 1))).bind fun t314 => (if ((t314 + 1) % 4294967296) = (Go.bits .or .u32 x303000 (shl .u32 1 (wrap64 (31 - x303001)))) then ((addrs_Near.f k x303000 (wrap64 (x303001 + 1)) x303000 x303001).bind fun t315 => (if t315 = true then ((addrs_Near.f k x303000 x303001 x303000 (wrap64 (x303001 + 1))).bind fun t316 => (if t316 = true then (none) else ((gangwaylaw02_fixed.f k).bind fun t317 => (some t317)))) else (none))) else (none))) else (none)))) else (none)))) else ((addrs_In.f k x303000 x303001 x1).bind fun t318 => (if (t318 == t308) = true then ((addrs_Last.f k (Go.bits .or .u32 x303000 (shl .u32 1 (wrap64 (31 - x303001)))) (wrap64 (x303001 + 1))).bind fun t319 => ((addrs_Last.f k x303000 x303001).bind fun t320 => (if t319 = t320 then ((addrs_Last.f k x303000 (wrap64 (x303001 + 1))).bind fun t321 => (if ((t321 + 1) % 4294967296) = (Go.bits .or .u32 x303000 (shl .u32 1 (wrap64 (31 - x303001)))) then ((addrs_Near.f k x303000 (wrap64 (x303001 + 1)) x303000 x303001).bind fun t322 => (if t322 = true then ((addrs_Near.f k x303000 x303001 x303000 (wrap64 (x303001 + 1))).bind fun t323 => (if t323 = true then (none) else ((gangwaylaw02_fixed.f k).bind fun t324 => (some t324)))) else (none))) else (none))) else (none)))) else (none)))) else (none))) else (none))))) else (none))
def gangwaylaw02_AddrsHalves.f (k : Nat) (a0_0 : Int) (a0_1 : Int) (a1 : Int) : Option (Bool) := (addrs_Net.f k a0_0 a0_1).bind fun t303 => (if t303 = true then (gangwaylaw02_AddrsHalves.j0 k a1 (a0_1 == 32) a0_0 a0_1) else (gangwaylaw02_AddrsHalves.j0 k a1 true a0_0 a0_1))
theorem gangwaylaw02_AddrsHalves.mono_l : ∀ k, (∀ y0 y1 y2 y3, LeO (gangwaylaw02_AddrsHalves.j0 k y0 y1 y2 y3) (gangwaylaw02_AddrsHalves.j0 (k + 1) y0 y1 y2 y3))
 | 0 => fun _ _ _ _ r h => by simp [gangwaylaw02_AddrsHalves.j0] at h
 | k + 1 => by
  have ih0 := gangwaylaw02_AddrsHalves.mono_l k
  ·intro y0 y1 y2 y3
   unfold gangwaylaw02_AddrsHalves.j0
   repeat' first
   | (with_reducible exact ih0 _ _ _ _)
   | (with_reducible exact addrs_In.mono _ _ _ _)
   | (with_reducible exact addrs_Last.mono _ _ _)
   | (with_reducible exact addrs_Near.mono _ _ _ _ _)
   | (with_reducible exact addrs_Net.mono _ _ _)
   | (with_reducible exact gangwaylaw02_fixed.mono _)
   | (with_reducible exact LeO.refl _)
   | (with_reducible exact LeO.none _)
   | (with_reducible refine LeO.ite ?_ ?_)
   | (with_reducible refine LeO.bind ?_ (fun _ => ?_))
   | exact ih0 _ _ _ _
   | exact addrs_In.mono _ _ _ _
   | exact addrs_Last.mono _ _ _
   | exact addrs_Near.mono _ _ _ _ _
   | exact addrs_Net.mono _ _ _
   | exact gangwaylaw02_fixed.mono _
   | exact LeO.none _
   | refine LeO.ite ?_ ?_
   | refine LeO.bind ?_ (fun _ => ?_)
theorem gangwaylaw02_AddrsHalves.mono : ∀ a0 a1 a2 k, LeO (gangwaylaw02_AddrsHalves.f k a0 a1 a2) (gangwaylaw02_AddrsHalves.f (k + 1) a0 a1 a2) := by
 intro a0 a1 a2 k
 have ih0 := gangwaylaw02_AddrsHalves.mono_l k
 unfold gangwaylaw02_AddrsHalves.f
 repeat' first
   | (with_reducible exact ih0 _ _ _ _)
   | (with_reducible exact addrs_In.mono _ _ _ _)
   | (with_reducible exact addrs_Last.mono _ _ _)
   | (with_reducible exact addrs_Near.mono _ _ _ _ _)
   | (with_reducible exact addrs_Net.mono _ _ _)
   | (with_reducible exact gangwaylaw02_fixed.mono _)
   | (with_reducible exact LeO.refl _)
   | (with_reducible exact LeO.none _)
   | (with_reducible refine LeO.ite ?_ ?_)
   | (with_reducible refine LeO.bind ?_ (fun _ => ?_))
   | exact ih0 _ _ _ _
   | exact addrs_In.mono _ _ _ _
   | exact addrs_Last.mono _ _ _
   | exact addrs_Near.mono _ _ _ _ _
   | exact addrs_Net.mono _ _ _
   | exact gangwaylaw02_fixed.mono _
   | exact LeO.none _
   | refine LeO.ite ?_ ?_
   | refine LeO.bind ?_ (fun _ => ?_)
def gangwaylaw02_AddrsHalves.T4 : Bool × List (List Nat × List Nat) := (true, [([], []), ([0], [0]), ([], []), ([2], [2]), ([3], [3]), ([4], [4]), ([1, 5], [1, 5]), ([], []), ([7], [7]), ([8], [8]), ([6, 9], [6, 9]), ([], []), ([11, 10, 0, 1, 2, 3, 4, 5, 6, 7, 8, 9, 10, 11], [10, 11])])
def gangwaylaw02_AddrsHalves.B4 : List Nat := [0, 1, 0, 4, 12, 28, 63, 0, 128, 384, 1023, 0, 4095]
theorem gangwaylaw02_AddrsHalves.tab4 : rtab .any (opsOf Tryz.f7 4) = gangwaylaw02_AddrsHalves.T4 := by kernel_rfl
theorem gangwaylaw02_AddrsHalves.bits4 : waitsOk gangwaylaw02_AddrsHalves.T4.2 gangwaylaw02_AddrsHalves.B4 = true := by kernel_rfl
def gangwaylaw02_AddrsHalves.T5 : Bool × List (List Nat × List Nat) := (true, [([], []), ([], []), ([0, 1], [0, 1]), ([], []), ([], []), ([3, 4, 2], [3, 4]), ([2, 5, 0, 1, 2], [2]), ([5, 6, 0, 1, 2, 3, 4, 5, 6], [5])])
def gangwaylaw02_AddrsHalves.B5 : List Nat := [0, 0, 3, 0, 0, 31, 63, 127]
theorem gangwaylaw02_AddrsHalves.tab5 : rtab .any (opsOf Tryz.f7 5) = gangwaylaw02_AddrsHalves.T5 := by kernel_rfl
theorem gangwaylaw02_AddrsHalves.bits5 : waitsOk gangwaylaw02_AddrsHalves.T5.2 gangwaylaw02_AddrsHalves.B5 = true := by kernel_rfl
def gangwaylaw02_AddrsHalves.T6 : Bool × List (List Nat × List Nat) := (true, [([], []), ([0], [0]), ([1, 1], [1]), ([2], [2]), ([3, 2, 2], [2, 3]), ([2, 4], [2, 4]), ([5, 4], [5]), ([6], [6]), ([7, 6, 6], [6, 7]), ([8], [8]), ([8, 9, 6], [6, 8, 9]), ([10, 6], [6, 10]), ([6, 11], [6, 11]), ([12, 8], [12]), ([13], [13]), ([13], [13]), ([14, 15, 13, 13], [13, 14, 15]), ([13], [13]), ([17, 16, 13], [13, 17]), ([18], [18]), ([18, 19, 13], [13, 18, 19]), ([16, 20, 13], [13, 16, 20]), ([13, 21], [13, 21]), ([22, 18], [22]), ([23], [23]), ([24, 23, 23], [23, 24]), ([23], [23]), ([26, 25, 23], [23, 26]), ([25, 27, 23], [23, 25, 27]), ([23, 28], [23, 28]), ([29, 27], [29]), ([30], [30]), ([31, 30, 30], [30, 31]), ([32, 30], [30, 32]), ([30], [30]), ([34, 30], [30, 34]), ([33, 35, 30], [30, 33, 35]), ([30, 36], [30, 36]), ([37, 32], [37]), ([38], [38]), ([38], [38]), ([39, 40, 38, 38], [38, 39, 40]), ([38, 41], [38, 41]), ([42, 41], [42]), ([43], [43]), ([43], [43]), ([44, 45, 43, 43], [43, 44, 45]), ([46, 43], [43, 46]), ([43, 47], [43, 47]), ([48, 46], [48]), ([49, 49], [49]), ([49, 50], [49, 50]), ([51, 50, 0, 1, 2, 3, 4, 5, 6, 7, 8, 9, 10, 11, 12, 13, 14, 15, 16, 17, 18, 19, 20, 21, 22, 23, 24, 25, 26, 27, 28, 29, 30, 31, 32, 33, 34, 35, 36, 37, 38, 39, 40, 41, 42, 43, 44, 45, 46, 47, 48, 49, 50, 51], [51])])
def gangwaylaw02_AddrsHalves.B6 : List Nat := [0, 1, 3, 7, 15, 31, 63, 127, 255, 511, 1023, 2047, 4095, 8191, 16383, 16383, 65535, 16383, 262143, 524287, 1048575, 2097151, 4194303, 8388607, 16777215, 33554431, 16777215, 134217727, 268435455, 536870911, 1073741823, 2147483647, 4294967295, 8589934591, 2147483647, 19327352831, 68719476735, 137438953471, 274877906943, 549755813887, 549755813887, 2199023255551, 4398046511103, 8796093022207, 17592186044415, 17592186044415, 70368744177663, 140737488355327, 281474976710655, 562949953421311, 1125899906842623, 2251799813685247, 4503599627370495]
theorem gangwaylaw02_AddrsHalves.tab6 : rtab .any (opsOf Tryz.f7 6) = gangwaylaw02_AddrsHalves.T6 := by kernel_rfl
theorem gangwaylaw02_AddrsHalves.bits6 : waitsOk gangwaylaw02_AddrsHalves.T6.2 gangwaylaw02_AddrsHalves.B6 = true := by kernel_rfl
theorem z33_0 {p : Prop} (h : p := by
 rw [if_neg (show ¬ (false = true) by decide)] at H
 exact absurd H (by simp)) : p := h
theorem z33_1 {p : Prop} (h : p := by
 show Act.put _ (some 37) _ = _
 simp only [Act.put, List.setIfInBounds_toArray, List.set_cons_zero, List.set_cons_succ, i64_w, i32_w]
 rfl) : p := h
theorem z33_2 {p : Prop} (h : p := by
 show Act.put _ (some 40) _ = _
 simp only [Act.put, List.setIfInBounds_toArray, List.set_cons_zero, List.set_cons_succ, i64_w, i32_w]
 rfl) : p := h
theorem z33_3 {p : Prop} (h : p := by
 show Act.put _ (some 42) _ = _
 simp only [Act.put, List.setIfInBounds_toArray, List.set_cons_zero, List.set_cons_succ, i64_w, i32_w]
 rfl) : p := h
theorem z33_4 {p : Prop} (h : p := by
 show Act.put _ (some 45) _ = _
 simp only [Act.put, List.setIfInBounds_toArray, List.set_cons_zero, List.set_cons_succ, i64_w, i32_w]
 rfl) : p := h
theorem z33_5 {p : Prop} (h : p := by
 show Act.put _ (some 57) _ = _
 simp only [Act.put, List.setIfInBounds_toArray, List.set_cons_zero, List.set_cons_succ, i64_w, i32_w]
 rfl) : p := h
theorem z33_6 {p : Prop} (h : p := by
 show Act.put _ (some 66) _ = _
 simp only [Act.put, List.setIfInBounds_toArray, List.set_cons_zero, List.set_cons_succ, i64_w, i32_w]
 rfl) : p := h
theorem z33_7 {p : Prop} (h : p := by
 show Act.put _ (some 68) _ = _
 simp only [Act.put, List.setIfInBounds_toArray, List.set_cons_zero, List.set_cons_succ, i64_w, i32_w]
 rfl) : p := h
theorem z33_8 {p : Prop} (h : p := by
 show Act.put _ (some 73) _ = _
 simp only [Act.put, List.setIfInBounds_toArray, List.set_cons_zero, List.set_cons_succ, i64_w, i32_w]
 rfl) : p := h
theorem z33_9 {p : Prop} (h : p := by
 show Act.put _ (some 82) _ = _
 simp only [Act.put, List.setIfInBounds_toArray, List.set_cons_zero, List.set_cons_succ, i64_w, i32_w]
 rfl) : p := h
theorem z33_10 {p : Prop} (h : p := by
 show Act.put _ (some 87) _ = _
 simp only [Act.put, List.setIfInBounds_toArray, List.set_cons_zero, List.set_cons_succ, i64_w, i32_w]
 rfl) : p := h
theorem z33_11 {p : Prop} (h : p := by
 show Act.put _ (some 91) _ = _
 simp only [Act.put, List.setIfInBounds_toArray, List.set_cons_zero, List.set_cons_succ, i64_w, i32_w]
 rfl) : p := h
theorem z33_12 {p : Prop} (h : p := by
 show Act.put _ (some 6) _ = _
 simp only [Act.put, List.setIfInBounds_toArray, List.set_cons_zero, List.set_cons_succ, i64_w, i32_w]
 rfl) : p := h
set_option maxHeartbeats 8000000 in
set_option maxRecDepth 100000 in
theorem gangwaylaw02_AddrsHalves.calls (k : Nat) (a0_0 : Int) (a0_1 : Int) (a1 : Int) (r : Bool) (w : World) (hL : Laid w) (h : gangwaylaw02_AddrsHalves.f k a0_0 a0_1 a1 = some r) :
  Calls Tryz.prog 7 #[.agg #[.int .u32 a0_0, .int .i64 a0_1], .int .u32 a1] w fun e w' => e = .returned (.bool r) ∧ Below w.heap.size w w' := by
 have HLD := Aside0.mk hL
 clear hL
 have hu34 := Tryz.underlying34
 have HB := Aside0.mk (Below.refl w.heap.size w)
 have H := h
 unfold gangwaylaw02_AddrsHalves.f at H
 clear h
 have HC3 := Aside0.mk H
 clear H
 go_enter Tryz.func7, Tryz.ntmps7
 go_upto_region 1 with (first | ((with_reducible refine gate_dst (N := 2) rfl ?_); refine box_event (by rfl) (N := 2) (by rfl) (cs := #[.int .u32 a0_0, .int .i64 a0_1]) (t := 34) (by first | (go_simp; done) | (go_simp; rfl)) ?_; intro gb302 hg w4 hbox hb; have BK302 := Aside0.mk (hbox); have GE302 := Aside0.mk ((by rw [hg]; exact (below_size (by repeat (first | (with_reducible first | exact HB.out | apply below_alloc | apply pw_below_drewN | apply below_drew1) | exact HB.out))) : w.heap.size ≤ gb302)); replace HB := Aside0.mk (below_step (by repeat (first | (with_reducible first | exact HB.out | apply below_alloc | apply pw_below_drewN | apply below_drew1) | exact HB.out)) hb); clear hb hbox hg))
 (try simp only [Act.put, List.setIfInBounds_toArray, List.set_cons_zero, List.set_cons_succ])
 go_cut [16] (fun v16 wc => ∃ (kq : Nat) (x16_2 : Bool), v16 = .bool x16_2 ∧ Aside0 (gangwaylaw02_AddrsHalves.j0 kq a1 x16_2 a0_0 a0_1 = some r) ∧ Aside0 (kq ≤ k) ∧ Aside0 (wc.heap[gb302]? = some (.cells #[.int .u32 a0_0, .int .i64 a0_1] 34 (0, 0))) ∧ Aside0 (Below w.heap.size w wc))
 case first =>
  have H := HC3.out
  clear HC3
  replace H := Option.bind_eq_some_iff.mp H
  obtain ⟨t303, A50, H⟩ := H
  try dsimp only at H
  have A5 := Aside0.mk A50
  clear A50
  by_cases c6 : t303 = true
  ·subst c6
   rw [if_pos rfl] at H
   have H' := Aside0.mk H
   clear H
   have hcz7_0 : w4.cell? ⟨gb302, 0, none⟩ = some (.int .u32 a0_0) := (blk_cell BK302.out 0).trans rfl
   have hcz7_1 : w4.cell? ⟨gb302, 1, none⟩ = some (.int .i64 a0_1) := (blk_cell BK302.out 1).trans rfl
   have hfz7_0 := blk_frozen BK302.out 0
   have hfz7_1 := blk_frozen BK302.out 1
   go_wp2_with (first | ((with_reducible refine gate_callee (f := 22) rfl ?_); refine goesL_ (some 10) rfl rfl Tryz.func22 (by kernel_rfl) rfl #[.agg #[.int .u32 a0_0, .int .i64 a0_1]] rfl (by (try simp only [List.map_toArray, List.map_cons, List.map_nil]); first | done | rfl | (simp only [List.length_drop, List.length_take]; rfl)) ?_; (with_reducible refine (addrs_Net.calls k a0_0 a0_1 true _ A5.out).mono ?_); rintro e w8 ⟨rfl, hb⟩; refine ⟨_, rfl, ?_⟩; replace BK302 := Aside0.mk (blk_below (g := gb302) (by (with_reducible repeat (first | refine blk_drewN ?_ _ | refine blk_drew ?_ | refine blk_alloc ?_ _)); exact BK302.out) hb); replace HB := Aside0.mk (below_step (by repeat (first | (with_reducible first | exact HB.out | apply below_alloc | apply pw_below_drewN | apply below_drew1 | refine below_set ?_ GE302.out) | exact HB.out)) hb); have hcy1_302_0 := (show World.cell? _ ⟨gb302, 0, none⟩ = some (.int .u32 a0_0) from (blk_cell BK302.out 0).trans rfl); have hcy1_302_1 := (show World.cell? _ ⟨gb302, 1, none⟩ = some (.int .i64 a0_1) from (blk_cell BK302.out 1).trans rfl); (try clear hb); (try clear hb2); (try clear hk); (try clear hi); have hcz9_0 : w8.cell? ⟨gb302, 0, none⟩ = some (.int .u32 a0_0) := (blk_cell BK302.out 0).trans rfl; have hcz9_1 : w8.cell? ⟨gb302, 1, none⟩ = some (.int .i64 a0_1) := (blk_cell BK302.out 1).trans rfl; have hfz9_0 := blk_frozen BK302.out 0; have hfz9_1 := blk_frozen BK302.out 1))
   go_meet
   case rel => exact ⟨_, ((a0_1 == 32)), (by first | rfl | (simp; done) | (simp [*]; done)), H', ⟨(by first | omega | exact Nat.le_refl _)⟩, ⟨(by (with_reducible repeat (first | refine blk_drewN ?_ _ | refine blk_drew ?_ | refine blk_alloc ?_ _)); exact BK302.out)⟩, ⟨(by repeat (first | (with_reducible first | exact HB.out | apply below_alloc | apply pw_below_drewN | apply below_drew1 | refine below_set ?_ GE302.out) | exact HB.out))⟩⟩
  ·replace c6 := Bool.eq_false_iff.mpr c6
   subst c6
   rw [if_neg (show ¬ (false = true) by decide)] at H
   have H' := Aside0.mk H
   clear H
   have hcz10_0 : w4.cell? ⟨gb302, 0, none⟩ = some (.int .u32 a0_0) := (blk_cell BK302.out 0).trans rfl
   have hcz10_1 : w4.cell? ⟨gb302, 1, none⟩ = some (.int .i64 a0_1) := (blk_cell BK302.out 1).trans rfl
   have hfz10_0 := blk_frozen BK302.out 0
   have hfz10_1 := blk_frozen BK302.out 1
   go_wp2_with (first | ((with_reducible refine gate_callee (f := 22) rfl ?_); refine goesL_ (some 10) rfl rfl Tryz.func22 (by kernel_rfl) rfl #[.agg #[.int .u32 a0_0, .int .i64 a0_1]] rfl (by (try simp only [List.map_toArray, List.map_cons, List.map_nil]); first | done | rfl | (simp only [List.length_drop, List.length_take]; rfl)) ?_; (with_reducible refine (addrs_Net.calls k a0_0 a0_1 false _ A5.out).mono ?_); rintro e w11 ⟨rfl, hb⟩; refine ⟨_, rfl, ?_⟩; replace BK302 := Aside0.mk (blk_below (g := gb302) (by (with_reducible repeat (first | refine blk_drewN ?_ _ | refine blk_drew ?_ | refine blk_alloc ?_ _)); exact BK302.out) hb); replace HB := Aside0.mk (below_step (by repeat (first | (with_reducible first | exact HB.out | apply below_alloc | apply pw_below_drewN | apply below_drew1 | refine below_set ?_ GE302.out) | exact HB.out)) hb); have hcy1_302_0 := (show World.cell? _ ⟨gb302, 0, none⟩ = some (.int .u32 a0_0) from (blk_cell BK302.out 0).trans rfl); have hcy1_302_1 := (show World.cell? _ ⟨gb302, 1, none⟩ = some (.int .i64 a0_1) from (blk_cell BK302.out 1).trans rfl); (try clear hb); (try clear hb2); (try clear hk); (try clear hi)))
   go_meet
   case rel => exact ⟨_, (true), (by first | rfl | (simp; done) | (simp [*]; done)), H', ⟨(by first | omega | exact Nat.le_refl _)⟩, ⟨(by (with_reducible repeat (first | refine blk_drewN ?_ _ | refine blk_drew ?_ | refine blk_alloc ?_ _)); exact BK302.out)⟩, ⟨(by repeat (first | (with_reducible first | exact HB.out | apply below_alloc | apply pw_below_drewN | apply below_drew1 | refine below_set ?_ GE302.out) | exact HB.out))⟩⟩
 case rest =>
  clear HC3
  try clear c2
  try clear p2
  try clear c6
  try clear c7
  obtain ⟨kq, x16_2, rfl, HA, HJ2, BK302, HB⟩ := hcut
  cases kq with
  | zero => exact absurd HA.out (by simp [gangwaylaw02_AddrsHalves.j0])
  | succ kj2 =>
   have H := HA.out
   clear HA
   simp only [gangwaylaw02_AddrsHalves.j0] at H
   by_cases c12 : x16_2 = true
   ·subst c12
    rw [if_pos rfl] at H
    replace H := Option.bind_eq_some_iff.mp H
    obtain ⟨t304, A130, H⟩ := H
    try dsimp only at H
    have A13 := Aside0.mk A130
    clear A130
    obtain rfl := Option.some.inj H
    go_wp2_with (first | ((with_reducible refine gate_callee (f := 13) rfl ?_); refine goesL_ (some 17) rfl rfl Tryz.func13 (by kernel_rfl) rfl #[] rfl (by (try simp only [List.map_toArray, List.map_cons, List.map_nil]); first | done | rfl | (simp only [List.length_drop, List.length_take]; rfl)) ?_; (with_reducible refine (gangwaylaw02_fixed.calls kj2  t304 _ ?sideL A13.out).mono ?_); (case sideL => exact laid_below HLD.out (by repeat (first | (with_reducible first | exact HB.out | apply below_alloc | apply pw_below_drewN | apply below_drew1 | refine below_set ?_ GE302.out) | exact HB.out))); rintro e w14 ⟨rfl, hb⟩; refine ⟨_, rfl, ?_⟩; replace BK302 := Aside0.mk (blk_below (g := gb302) (by (with_reducible repeat (first | refine blk_drewN ?_ _ | refine blk_drew ?_ | refine blk_alloc ?_ _)); exact BK302.out) hb); replace HB := Aside0.mk (below_step (by repeat (first | (with_reducible first | exact HB.out | apply below_alloc | apply pw_below_drewN | apply below_drew1 | refine below_set ?_ GE302.out) | exact HB.out)) hb); have hcy1_302_0 := (show World.cell? _ ⟨gb302, 0, none⟩ = some (.int .u32 a0_0) from (blk_cell BK302.out 0).trans rfl); have hcy1_302_1 := (show World.cell? _ ⟨gb302, 1, none⟩ = some (.int .i64 a0_1) from (blk_cell BK302.out 1).trans rfl); (try clear hb); (try clear hb2); (try clear hk); (try clear hi)))
    go_ret
    exact ⟨(by first | rfl | (simp [errW_none, errW_some] <;> rfl) | (simp [*, errW_none, errW_some] <;> rfl) | (simp [*, IntKind.wrap_u32]; done) | (simp_all [IntKind.wrap_u32]; done)), (by repeat (first | (with_reducible first | exact HB.out | apply below_alloc | apply pw_below_drewN | apply below_drew1 | refine below_set ?_ GE302.out) | exact HB.out))⟩
   ·replace c12 := Bool.eq_false_iff.mpr c12
    subst c12
    rw [if_neg (show ¬ (false = true) by decide)] at H
    obtain ⟨ji15, hji15⟩ : ∃ j_ : Int, (wrap64 (31 - a0_1)) = j_ := ⟨_, rfl⟩
    replace H : (if 0 ≤ (ji15) then ((addrs_In.f kj2 a0_0 (wrap64 (a0_1 + 1)) a1).bind fun t307 => ((addrs_In.f kj2 (Go.bits .or .u32 a0_0 (shl .u32 1 (ji15))) (wrap64 (a0_1 + 1)) a1).bind fun t308 => ((addrs_Net.f kj2 a0_0 (wrap64 (a0_1 + 1))).bind fun t309 => (if t309 = true then ((addrs_Net.f kj2 (Go.bits .or .u32 a0_0 (shl .u32 1 (ji15))) (wrap64 (a0_1 + 1))).bind fun t310 => (if t310 = true then (if t307 = true then (if t308 = true then (none) else ((addrs_In.f kj2 a0_0 a0_1 a1).bind fun t311 => (if (t311 == true) = true then ((addrs_Last.f kj2 (Go.bits .or .u32 a0_0 (shl .u32 1 (ji15))) (wrap64 (a0_1 + 1))).bind fun t312 => ((addrs_Last.f kj2 a0_0 a0_1).bind fun t313 => (if t312 = t313 then ((addrs_Last.f kj2 a0_0 (wrap64 (a0_1 + 1))).bind fun t314 => (if ((t314 + 1) % 4294967296) = (Go.bits .or .u32 a0_0 (shl .u32 1 (ji15))) then ((addrs_Near.f kj2 a0_0 (wrap64 (a0_1 + 1)) a0_0 a0_1).bind fun t315 => (if t315 = true then ((addrs_Near.f kj2 a0_0 a0_1 a0_0 (wrap64 (a0_1 + 1))).bind fun t316 => (if t316 = true then (none) else ((gangwaylaw02_fixed.f kj2).bind fun t317 => (some t317)))) else (none))) else (none))) else (none)))) else (none)))) else ((addrs_In.f kj2 a0_0 a0_1 a1).bind fun t318 => (if (t318 == t308) = true then ((addrs_Last.f kj2 (Go.bits .or .u32 a0_0 (shl .u32 1 (ji15))) (wrap64 (a0_1 + 1))).bind fun t319 => ((addrs_Last.f kj2 a0_0 a0_1).bind fun t320 => (if t319 = t320 then ((addrs_Last.f kj2 a0_0 (wrap64 (a0_1 + 1))).bind fun t321 => (if ((t321 + 1) % 4294967296) = (Go.bits .or .u32 a0_0 (shl .u32 1 (ji15))) then ((addrs_Near.f kj2 a0_0 (wrap64 (a0_1 + 1)) a0_0 a0_1).bind fun t322 => (if t322 = true then ((addrs_Near.f kj2 a0_0 a0_1 a0_0 (wrap64 (a0_1 + 1))).bind fun t323 => (if t323 = true then (none) else ((gangwaylaw02_fixed.f kj2).bind fun t324 => (some t324)))) else (none))) else (none))) else (none)))) else (none)))) else (none))) else (none))))) else (none)) = some r := by first | (rw [hji15] at H; exact H) | (simp only [hji15] at H ⊢; exact H)
    have hji15w : (IntKind.i64.wrap (31 - a0_1)) = ji15 := (i64_w _).trans hji15
    by_cases c16 : 0 ≤ (ji15)
    ·rw [if_pos c16] at H
     have c16b0 := eq_true c16
     have c16b1 : decide (0 ≤ (ji15)) = true := decide_eq_true c16
     clear c16
     obtain ⟨ji17, hji17⟩ : ∃ j_ : Int, (shl .u32 1 (ji15)) = j_ := ⟨_, rfl⟩
     replace H : ((addrs_In.f kj2 a0_0 (wrap64 (a0_1 + 1)) a1).bind fun t307 => ((addrs_In.f kj2 (Go.bits .or .u32 a0_0 (ji17)) (wrap64 (a0_1 + 1)) a1).bind fun t308 => ((addrs_Net.f kj2 a0_0 (wrap64 (a0_1 + 1))).bind fun t309 => (if t309 = true then ((addrs_Net.f kj2 (Go.bits .or .u32 a0_0 (ji17)) (wrap64 (a0_1 + 1))).bind fun t310 => (if t310 = true then (if t307 = true then (if t308 = true then (none) else ((addrs_In.f kj2 a0_0 a0_1 a1).bind fun t311 => (if (t311 == true) = true then ((addrs_Last.f kj2 (Go.bits .or .u32 a0_0 (ji17)) (wrap64 (a0_1 + 1))).bind fun t312 => ((addrs_Last.f kj2 a0_0 a0_1).bind fun t313 => (if t312 = t313 then ((addrs_Last.f kj2 a0_0 (wrap64 (a0_1 + 1))).bind fun t314 => (if ((t314 + 1) % 4294967296) = (Go.bits .or .u32 a0_0 (ji17)) then ((addrs_Near.f kj2 a0_0 (wrap64 (a0_1 + 1)) a0_0 a0_1).bind fun t315 => (if t315 = true then ((addrs_Near.f kj2 a0_0 a0_1 a0_0 (wrap64 (a0_1 + 1))).bind fun t316 => (if t316 = true then (none) else ((gangwaylaw02_fixed.f kj2).bind fun t317 => (some t317)))) else (none))) else (none))) else (none)))) else (none)))) else ((addrs_In.f kj2 a0_0 a0_1 a1).bind fun t318 => (if (t318 == t308) = true then ((addrs_Last.f kj2 (Go.bits .or .u32 a0_0 (ji17)) (wrap64 (a0_1 + 1))).bind fun t319 => ((addrs_Last.f kj2 a0_0 a0_1).bind fun t320 => (if t319 = t320 then ((addrs_Last.f kj2 a0_0 (wrap64 (a0_1 + 1))).bind fun t321 => (if ((t321 + 1) % 4294967296) = (Go.bits .or .u32 a0_0 (ji17)) then ((addrs_Near.f kj2 a0_0 (wrap64 (a0_1 + 1)) a0_0 a0_1).bind fun t322 => (if t322 = true then ((addrs_Near.f kj2 a0_0 a0_1 a0_0 (wrap64 (a0_1 + 1))).bind fun t323 => (if t323 = true then (none) else ((gangwaylaw02_fixed.f kj2).bind fun t324 => (some t324)))) else (none))) else (none))) else (none)))) else (none)))) else (none))) else (none))))) = some r := by first | (rw [hji17] at H; exact H) | (simp only [hji17] at H ⊢; exact H)
     have hji17_ : (IntKind.u32.wrap (1 * 2 ^ min (ji15).toNat 32)) = ji17 := hji17
     have hji17z : (ji15) ≤ 32 → (IntKind.u32.wrap (1 * 2 ^ (ji15).toNat)) = ji17 := shl_small hji17
     have hji17u : (IntKind.u32.wrap (2 ^ min (ji15).toNat 32)) = ji17 := by have h_ := hji17_; rw [Int.one_mul] at h_; exact h_
     have hji17v : (ji15) ≤ 32 → (IntKind.u32.wrap (2 ^ (ji15).toNat)) = ji17 := fun hle_ => by have h_ := hji17z hle_; rw [Int.one_mul] at h_; exact h_
     replace H := Option.bind_eq_some_iff.mp H
     obtain ⟨t307, A180, H⟩ := H
     try dsimp only at H
     have A18 := Aside0.mk A180
     clear A180
     replace H := Option.bind_eq_some_iff.mp H
     obtain ⟨t308, A190, H⟩ := H
     try dsimp only at H
     have A19 := Aside0.mk A190
     clear A190
     replace H := Option.bind_eq_some_iff.mp H
     obtain ⟨t309, A200, H⟩ := H
     try dsimp only at H
     have A20 := Aside0.mk A200
     clear A200
     by_cases c21 : t309 = true
     ·subst c21
      rw [if_pos rfl] at H
      replace H := Option.bind_eq_some_iff.mp H
      obtain ⟨t310, A220, H⟩ := H
      try dsimp only at H
      have A22 := Aside0.mk A220
      clear A220
      by_cases c23 : t310 = true
      ·subst c23
       rw [if_pos rfl] at H
       by_cases c24 : t307 = true
       ·subst c24
        rw [if_pos rfl] at H
        by_cases c25 : t308 = true
        ·subst c25
         rw [if_pos rfl] at H
         exact absurd H (by simp)
        ·replace c25 := Bool.eq_false_iff.mpr c25
         subst c25
         rw [if_neg (show ¬ (false = true) by decide)] at H
         replace H := Option.bind_eq_some_iff.mp H
         obtain ⟨t311, A260, H⟩ := H
         try dsimp only at H
         have A26 := Aside0.mk A260
         clear A260
         by_cases c27 : (t311 == true) = true
         ·rw [if_pos c27] at H
          have c27b0 : (t311 == true) = true := c27
          (try (have c27b1 : decide (t311 = true) = true := by simpa using c27))
          (try (have c27b2 : (t311 == true) = true := by simpa using c27))
          clear c27
          replace H := Option.bind_eq_some_iff.mp H
          obtain ⟨t312, A280, H⟩ := H
          try dsimp only at H
          have A28 := Aside0.mk A280
          clear A280
          replace H := Option.bind_eq_some_iff.mp H
          obtain ⟨t313, A290, H⟩ := H
          try dsimp only at H
          have A29 := Aside0.mk A290
          clear A290
          by_cases c30 : t312 = t313
          ·rw [if_pos c30] at H
           have c30b0 : (t312 == t313) = true := beq_iff_eq.mpr c30
           have c30b1 : (t312 != t313) = false := bne_eq_false_iff_eq.mpr c30
           clear c30
           replace H := Option.bind_eq_some_iff.mp H
           obtain ⟨t314, A310, H⟩ := H
           try dsimp only at H
           have A31 := Aside0.mk A310
           clear A310
           by_cases c32 : ((t314 + 1) % 4294967296) = (Go.bits .or .u32 a0_0 (ji17))
           ·rw [if_pos c32] at H
            have c32b0 : (((t314 + 1) % 4294967296) == (Go.bits .or .u32 a0_0 (ji17))) = true := beq_iff_eq.mpr c32
            have c32b0w : (IntKind.u32.wrap (t314 + 1) == (Go.bits .or .u32 a0_0 (ji17))) = true := by rw [IntKind.wrap_u32]; exact c32b0
            have c32b1 : (((t314 + 1) % 4294967296) != (Go.bits .or .u32 a0_0 (ji17))) = false := bne_eq_false_iff_eq.mpr c32
            have c32b1w : (IntKind.u32.wrap (t314 + 1) != (Go.bits .or .u32 a0_0 (ji17))) = false := by rw [IntKind.wrap_u32]; exact c32b1
            clear c32
            replace H := Option.bind_eq_some_iff.mp H
            obtain ⟨t315, A330, H⟩ := H
            try dsimp only at H
            have A33 := Aside0.mk A330
            clear A330
            by_cases c34 : t315 = true
            ·subst c34
             rw [if_pos rfl] at H
             replace H := Option.bind_eq_some_iff.mp H
             obtain ⟨t316, A350, H⟩ := H
             try dsimp only at H
             have A35 := Aside0.mk A350
             clear A350
             by_cases c36 : t316 = true
             ·subst c36
              rw [if_pos rfl] at H
              exact absurd H (by simp)
             ·replace c36 := Bool.eq_false_iff.mpr c36
              subst c36
              rw [if_neg (show ¬ (false = true) by decide)] at H
              replace H := Option.bind_eq_some_iff.mp H
              obtain ⟨t317, A370, H⟩ := H
              try dsimp only at H
              have A37 := Aside0.mk A370
              clear A370
              obtain rfl := Option.some.inj H
              have hcz38_0 : wc.cell? ⟨gb302, 0, none⟩ = some (.int .u32 a0_0) := (blk_cell BK302.out 0).trans rfl
              have hcz38_1 : wc.cell? ⟨gb302, 1, none⟩ = some (.int .i64 a0_1) := (blk_cell BK302.out 1).trans rfl
              have hfz38_0 := blk_frozen BK302.out 0
              have hfz38_1 := blk_frozen BK302.out 1
              try go_wp2_with (first | ((with_reducible refine gate_dst (N := 5) rfl ?_); refine box_event (by rfl) (N := 5) (by rfl) (cs := #[.int .u32 0, .int .i64 0]) (t := 34) (by first | (go_simp; done) | (go_simp; rfl)) ?_; intro gb305 hg w39 hbox hb; have BK305 := Aside0.mk (hbox); have GE305 := Aside0.mk ((by rw [hg]; exact (below_size (by repeat (first | (with_reducible first | exact HB.out | apply below_alloc | apply pw_below_drewN | apply below_drew1 | refine below_set ?_ GE302.out) | exact HB.out))) : w.heap.size ≤ gb305)); have NB302_305 := Aside0.mk ((by rw [hg]; exact Nat.ne_of_lt (blk_lt (g := gb302) (by (with_reducible repeat (first | refine blk_drewN ?_ _ | refine blk_drew ?_ | refine blk_alloc ?_ _)); exact BK302.out)) : gb302 ≠ gb305)); have NB305_302 := Aside0.mk ((by rw [hg]; exact Nat.ne_of_gt (blk_lt (g := gb302) (by (with_reducible repeat (first | refine blk_drewN ?_ _ | refine blk_drew ?_ | refine blk_alloc ?_ _)); exact BK302.out)) : gb305 ≠ gb302)); replace BK302 := Aside0.mk (blk_below (g := gb302) (by (with_reducible repeat (first | refine blk_drewN ?_ _ | refine blk_drew ?_ | refine blk_alloc ?_ _)); exact BK302.out) hb); replace HB := Aside0.mk (below_step (by repeat (first | (with_reducible first | exact HB.out | apply below_alloc | apply pw_below_drewN | apply below_drew1 | refine below_set ?_ GE302.out) | exact HB.out)) hb); have hcy1_302_0 := (show World.cell? _ ⟨gb302, 0, none⟩ = some (.int .u32 a0_0) from (blk_cell BK302.out 0).trans rfl); have hcy1_302_1 := (show World.cell? _ ⟨gb302, 1, none⟩ = some (.int .i64 a0_1) from (blk_cell BK302.out 1).trans rfl); clear hb hbox hg; have hnb40 := NB305_302.out; have hnc40 := NB302_305.out; have hcz41_0 : w39.cell? ⟨gb305, 0, none⟩ = some (.int .u32 0) := (blk_cell BK305.out 0).trans rfl; have hcz41_1 : w39.cell? ⟨gb305, 1, none⟩ = some (.int .i64 0) := (blk_cell BK305.out 1).trans rfl; have hfz41_0 := blk_frozen BK305.out 0; have hfz41_1 := blk_frozen BK305.out 1))
              have n0_ : Aside0 (((w39.setCell ⟨gb305, 0, none⟩ (.int .u32 a0_0)).setCell ⟨gb305, 1, none⟩ (.int .i64 (wrap64 (a0_1 + 1)))).heap[gb302]? = some (.cells #[.int .u32 a0_0, .int .i64 a0_1] 34 (0, 0))) := ⟨(by (with_reducible repeat (first | refine blk_drewN ?_ _ | refine blk_drew ?_ | refine blk_alloc ?_ _ | refine blk_far ?_ NB302_305.out _)); exact BK302.out)⟩
              have n1_ : Aside0 (((w39.setCell ⟨gb305, 0, none⟩ (.int .u32 a0_0)).setCell ⟨gb305, 1, none⟩ (.int .i64 (wrap64 (a0_1 + 1)))).heap[gb305]? = some (.cells #[.int .u32 a0_0, .int .i64 (wrap64 (a0_1 + 1))] 34 (0, 0))) := ⟨(by (with_reducible repeat (first | refine blk_drewN ?_ _ | refine blk_drew ?_ | refine blk_alloc ?_ _)); refine blk_put (cs := #[.int .u32 a0_0, .int .i64 0]) ?_ 1 _ rfl; (with_reducible repeat (first | refine blk_drewN ?_ _ | refine blk_drew ?_ | refine blk_alloc ?_ _)); refine blk_put (cs := #[.int .u32 0, .int .i64 0]) ?_ 0 _ rfl; (with_reducible repeat (first | refine blk_drewN ?_ _ | refine blk_drew ?_ | refine blk_alloc ?_ _)); exact BK305.out)⟩
              have n2_ : Aside0 (Below w.heap.size w ((w39.setCell ⟨gb305, 0, none⟩ (.int .u32 a0_0)).setCell ⟨gb305, 1, none⟩ (.int .i64 (wrap64 (a0_1 + 1))))) := ⟨(by repeat (first | (with_reducible first | exact HB.out | apply below_alloc | apply pw_below_drewN | apply below_drew1 | refine below_set ?_ GE302.out | refine below_set ?_ GE305.out) | exact HB.out))⟩
              (try clear BK302)
              (try clear BK305)
              (try clear HB)
              generalize ((w39.setCell ⟨gb305, 0, none⟩ (.int .u32 a0_0)).setCell ⟨gb305, 1, none⟩ (.int .i64 (wrap64 (a0_1 + 1)))) = w42 at n0_ n1_ n2_ ⊢
              have BK302 := n0_
              have BK305 := n1_
              have HB := n2_
              clear n0_ n1_ n2_
              replace BK302 := Aside0.mk (blk_drew BK302.out)
              replace BK305 := Aside0.mk (blk_drew BK305.out)
              replace HB := Aside0.mk (below_drew1 HB.out)
              refine start_ (n := 13) (S := fun w' => w'.cell? ⟨gb302, 0, none⟩ = some (.int .u32 a0_0) ∧ w'.cell? ⟨gb302, 1, none⟩ = some (.int .i64 a0_1)) (ds := []) (ba 13 0) (by kernel_rfl) rfl rfl ⟨(blk_cell BK302.out 0).trans rfl, (blk_cell BK302.out 1).trans rfl⟩ (fun hHeld => ?_); refine with_tabW gangwaylaw02_AddrsHalves.tab4 gangwaylaw02_AddrsHalves.bits4 (fun HT_ HW_ => ?_)
              generalize w42.drew = w43 at BK302 BK305 HB hHeld ⊢
              refine pu_139 (i := 0) (N := some 24) (ba 13 1) ?_
              refine pu_139 (i := 2) (N := some 26) (ba 13 5) ?_
              refine pu_139 (i := 7) (N := some 31) (ba 13 133) ?_
              refine tk_ca0 (i := 1) (N := some 25) (ba 13 135) hHeld ?_
              refine tk_ca0 (i := 3) (N := some 27) (ba 13 143) hHeld ?_
              refine pu_139 (i := 4) (N := some 28) (ba 13 159) ?_
              refine pu_139 (i := 5) (N := some 29) (ba 13 191) ?_
              refine pu_139 (i := 6) (N := some 30) (ba 13 255) ?_
              refine tk_ca0 (i := 8) (N := some 32) (ba 13 511) hHeld ?_
              refine pu_139 (i := 9) (N := some 33) (ba 13 1023) ?_
              refine pu_139 (i := 10) (N := some 34) (ba 13 2047) ?_
              refine one_ (i := 11) (N := some 6) (ba 13 4095) rfl rfl (one_of HT_.out (by kernel_rfl)) (by decide) (fun K hK => ?_)
              refine box_step ?hg (N := 6) ?hd (cs := #[.int .u32 0, .int .i64 0]) (t := 34) ?hr ?_; (case hd => rfl); (case hg => rfl); (case hr => first | (go_simp; done) | (go_simp; rfl))
              intro gb306 hg w44 hbox hb
              have BK306 := Aside0.mk (hbox)
              have GE306 := Aside0.mk ((by rw [hg]; exact (below_size (by repeat (first | (with_reducible first | exact HB.out | apply below_alloc | apply pw_below_drewN | apply below_drew1 | refine below_set ?_ GE302.out | refine below_set ?_ GE305.out) | exact HB.out))) : w.heap.size ≤ gb306))
              have NB302_306 := Aside0.mk ((by rw [hg]; exact Nat.ne_of_lt (blk_lt (g := gb302) (o := .cells #[.int .u32 a0_0, .int .i64 a0_1] 34 (0, 0)) (by (with_reducible repeat (first | refine blk_drewN ?_ _ | refine blk_drew ?_ | refine blk_alloc ?_ _)); exact BK302.out)) : gb302 ≠ gb306))
              have NB306_302 := Aside0.mk ((by rw [hg]; exact Nat.ne_of_gt (blk_lt (g := gb302) (o := .cells #[.int .u32 a0_0, .int .i64 a0_1] 34 (0, 0)) (by (with_reducible repeat (first | refine blk_drewN ?_ _ | refine blk_drew ?_ | refine blk_alloc ?_ _)); exact BK302.out)) : gb306 ≠ gb302))
              have NB305_306 := Aside0.mk ((by rw [hg]; exact Nat.ne_of_lt (blk_lt (g := gb305) (o := .cells #[.int .u32 a0_0, .int .i64 (wrap64 (a0_1 + 1))] 34 (0, 0)) (by (with_reducible repeat (first | refine blk_drewN ?_ _ | refine blk_drew ?_ | refine blk_alloc ?_ _)); exact BK305.out)) : gb305 ≠ gb306))
              have NB306_305 := Aside0.mk ((by rw [hg]; exact Nat.ne_of_gt (blk_lt (g := gb305) (o := .cells #[.int .u32 a0_0, .int .i64 (wrap64 (a0_1 + 1))] 34 (0, 0)) (by (with_reducible repeat (first | refine blk_drewN ?_ _ | refine blk_drew ?_ | refine blk_alloc ?_ _)); exact BK305.out)) : gb306 ≠ gb305))
              replace BK302 := Aside0.mk (blk_below (g := gb302) (o := .cells #[.int .u32 a0_0, .int .i64 a0_1] 34 (0, 0)) (by (with_reducible repeat (first | refine blk_drewN ?_ _ | refine blk_drew ?_ | refine blk_alloc ?_ _)); exact BK302.out) hb)
              replace BK305 := Aside0.mk (blk_below (g := gb305) (o := .cells #[.int .u32 a0_0, .int .i64 (wrap64 (a0_1 + 1))] 34 (0, 0)) (by (with_reducible repeat (first | refine blk_drewN ?_ _ | refine blk_drew ?_ | refine blk_alloc ?_ _)); exact BK305.out) hb)
              replace HB := Aside0.mk (below_step (by repeat (first | (with_reducible first | exact HB.out | apply below_alloc | apply pw_below_drewN | apply below_drew1 | refine below_set ?_ GE302.out | refine below_set ?_ GE305.out) | exact HB.out)) hb)
              clear hb hbox hg
              refine hK.out _ _ (by exact ⟨(blk_cell BK302.out 0).trans rfl, (blk_cell BK302.out 1).trans rfl⟩) (fun hHeld => ?_)
              clear hK K
              refine norm_ (a' := ?_) ?_ ?_
              rotate_left
              ·exact z33_12
              refine one_ (i := 12) (N := none) (ba 13 8191) rfl rfl (one_of HT_.out (by kernel_rfl)) (by decide) (fun K hK => ?_)
              have hs45 : w44.cell? ⟨gb306, 0, none⟩ = some (.int .u32 0) := (blk_cell BK306.out 0).trans rfl
              have hfs45 := blk_frozen BK306.out 0
              have hns45_0 := NB302_306.out
              have hns45_1 := NB305_306.out
              have hms45_0 := NB306_302.out
              have hms45_1 := NB306_305.out
              have hs46 : w44.cell? ⟨gb306, 1, none⟩ = some (.int .i64 0) := (blk_cell BK306.out 1).trans rfl
              have hfs46 := blk_frozen BK306.out 1
              have hns46_0 := NB302_306.out
              have hns46_1 := NB305_306.out
              have hms46_0 := NB306_302.out
              have hms46_1 := NB306_305.out
              refine skip_ (w1 := ?_) (by rfl) rfl ?_ ?_
              rotate_left
              ·go_simp
               rfl
              refine hK.out _ _ (by exact ⟨((cell_far (p := ⟨gb306, _, none⟩) NB302_306.out _).trans (((cell_far (p := ⟨gb306, _, none⟩) NB302_306.out _).trans (hHeld.1)))), ((cell_far (p := ⟨gb306, _, none⟩) NB302_306.out _).trans (((cell_far (p := ⟨gb306, _, none⟩) NB302_306.out _).trans (hHeld.2))))⟩) (fun hHeld => ?_)
              clear hK K
              refine done_ (done_of HT_.out (by kernel_rfl)) ?_
              try go_wp2
              have n0_ : Aside0 (((w44.setCell ⟨gb306, 0, none⟩ (.int .u32 (Go.bits .or .u32 a0_0 (ji17)))).setCell ⟨gb306, 1, none⟩ (.int .i64 (wrap64 (a0_1 + 1)))).heap[gb302]? = some (.cells #[.int .u32 a0_0, .int .i64 a0_1] 34 (0, 0))) := ⟨(by (with_reducible repeat (first | refine blk_drewN ?_ _ | refine blk_drew ?_ | refine blk_alloc ?_ _ | refine blk_far ?_ NB302_306.out _)); exact BK302.out)⟩
              have n1_ : Aside0 (((w44.setCell ⟨gb306, 0, none⟩ (.int .u32 (Go.bits .or .u32 a0_0 (ji17)))).setCell ⟨gb306, 1, none⟩ (.int .i64 (wrap64 (a0_1 + 1)))).heap[gb305]? = some (.cells #[.int .u32 a0_0, .int .i64 (wrap64 (a0_1 + 1))] 34 (0, 0))) := ⟨(by (with_reducible repeat (first | refine blk_drewN ?_ _ | refine blk_drew ?_ | refine blk_alloc ?_ _ | refine blk_far ?_ NB305_306.out _)); exact BK305.out)⟩
              have n2_ : Aside0 (((w44.setCell ⟨gb306, 0, none⟩ (.int .u32 (Go.bits .or .u32 a0_0 (ji17)))).setCell ⟨gb306, 1, none⟩ (.int .i64 (wrap64 (a0_1 + 1)))).heap[gb306]? = some (.cells #[.int .u32 (Go.bits .or .u32 a0_0 (ji17)), .int .i64 (wrap64 (a0_1 + 1))] 34 (0, 0))) := ⟨(by (with_reducible repeat (first | refine blk_drewN ?_ _ | refine blk_drew ?_ | refine blk_alloc ?_ _)); refine blk_put (cs := #[.int .u32 (Go.bits .or .u32 a0_0 (ji17)), .int .i64 0]) ?_ 1 _ rfl; (with_reducible repeat (first | refine blk_drewN ?_ _ | refine blk_drew ?_ | refine blk_alloc ?_ _)); refine blk_put (cs := #[.int .u32 0, .int .i64 0]) ?_ 0 _ rfl; (with_reducible repeat (first | refine blk_drewN ?_ _ | refine blk_drew ?_ | refine blk_alloc ?_ _)); exact BK306.out)⟩
              have n3_ : Aside0 (Below w.heap.size w ((w44.setCell ⟨gb306, 0, none⟩ (.int .u32 (Go.bits .or .u32 a0_0 (ji17)))).setCell ⟨gb306, 1, none⟩ (.int .i64 (wrap64 (a0_1 + 1))))) := ⟨(by repeat (first | (with_reducible first | exact HB.out | apply below_alloc | apply pw_below_drewN | apply below_drew1 | refine below_set ?_ GE302.out | refine below_set ?_ GE305.out | refine below_set ?_ GE306.out) | exact HB.out))⟩
              (try clear BK302)
              (try clear BK305)
              (try clear BK306)
              (try clear HB)
              generalize ((w44.setCell ⟨gb306, 0, none⟩ (.int .u32 (Go.bits .or .u32 a0_0 (ji17)))).setCell ⟨gb306, 1, none⟩ (.int .i64 (wrap64 (a0_1 + 1)))) = w47 at n0_ n1_ n2_ n3_ ⊢
              have BK302 := n0_
              have BK305 := n1_
              have BK306 := n2_
              have HB := n3_
              clear n0_ n1_ n2_ n3_
              replace BK302 := Aside0.mk (blk_drew BK302.out)
              replace BK305 := Aside0.mk (blk_drew BK305.out)
              replace BK306 := Aside0.mk (blk_drew BK306.out)
              replace HB := Aside0.mk (below_drew1 HB.out)
              refine start_ (n := 8) (S := fun w' => w'.cell? ⟨gb305, 0, none⟩ = some (.int .u32 a0_0) ∧ w'.cell? ⟨gb305, 1, none⟩ = some (.int .i64 (wrap64 (a0_1 + 1))) ∧ w'.cell? ⟨gb306, 0, none⟩ = some (.int .u32 (Go.bits .or .u32 a0_0 (ji17))) ∧ w'.cell? ⟨gb306, 1, none⟩ = some (.int .i64 (wrap64 (a0_1 + 1)))) (ds := []) (ba 8 0) (by kernel_rfl) rfl rfl ⟨(blk_cell BK305.out 0).trans rfl, (blk_cell BK305.out 1).trans rfl, (blk_cell BK306.out 0).trans rfl, (blk_cell BK306.out 1).trans rfl⟩ (fun hHeld => ?_); refine with_tabW gangwaylaw02_AddrsHalves.tab5 gangwaylaw02_AddrsHalves.bits5 (fun HT_ HW_ => ?_)
              generalize w47.drew = w48 at BK302 BK305 BK306 HB hHeld ⊢
              refine pu_139 (i := 1) (N := some 36) (ba 8 2) ?_
              refine pu_139 (i := 4) (N := some 39) (ba 8 18) ?_
              refine tk_15c (i := 0) (N := some 35) (ba 8 19) hHeld ?_
              refine tk_15c (i := 3) (N := some 38) (ba 8 27) hHeld ?_
              refine one_ (i := 2) (N := some 37) (ba 8 31) rfl rfl (one_of HT_.out (by kernel_rfl)) (by decide) (fun K hK => ?_)
              refine goes_ Tryz.func24 (by kernel_rfl) rfl #[.agg #[.int .u32 a0_0, .int .i64 (wrap64 (a0_1 + 1))], .int .u32 a1] (by first | rfl | exact wanted_on rfl rfl rfl (by first | rfl | (simp [*]; done) | (simp [*, IntKind.wrap_u32]; done))) rfl rfl (by (try simp only [List.map_toArray, List.map_cons, List.map_nil]); first | done | rfl | (simp only [List.length_drop, List.length_take]; rfl)) ?_
              with_reducible refine (addrs_In.calls kj2 a0_0 (wrap64 (a0_1 + 1)) a1 true _ A18.out).mono ?_
              rintro e w49 ⟨rfl, hb⟩
              refine ⟨_, rfl, ?_⟩
              replace BK302 := Aside0.mk (blk_below (g := gb302) (o := .cells #[.int .u32 a0_0, .int .i64 a0_1] 34 (0, 0)) (by (with_reducible repeat (first | refine blk_drewN ?_ _ | refine blk_drew ?_ | refine blk_alloc ?_ _)); exact BK302.out) hb)
              replace BK305 := Aside0.mk (blk_below (g := gb305) (o := .cells #[.int .u32 a0_0, .int .i64 (wrap64 (a0_1 + 1))] 34 (0, 0)) (by (with_reducible repeat (first | refine blk_drewN ?_ _ | refine blk_drew ?_ | refine blk_alloc ?_ _)); exact BK305.out) hb)
              replace BK306 := Aside0.mk (blk_below (g := gb306) (o := .cells #[.int .u32 (Go.bits .or .u32 a0_0 (ji17)), .int .i64 (wrap64 (a0_1 + 1))] 34 (0, 0)) (by (with_reducible repeat (first | refine blk_drewN ?_ _ | refine blk_drew ?_ | refine blk_alloc ?_ _)); exact BK306.out) hb)
              replace HB := Aside0.mk (below_step (by repeat (first | (with_reducible first | exact HB.out | apply below_alloc | apply pw_below_drewN | apply below_drew1 | refine below_set ?_ GE302.out | refine below_set ?_ GE305.out | refine below_set ?_ GE306.out) | exact HB.out)) hb)
              (try clear hb)
              (try clear hb2)
              (try clear hk)
              (try clear hi)
              refine hK.out _ _ (by exact ⟨(blk_cell BK305.out 0).trans rfl, (blk_cell BK305.out 1).trans rfl, (blk_cell BK306.out 0).trans rfl, (blk_cell BK306.out 1).trans rfl⟩) (fun hHeld => ?_)
              clear hK K
              refine norm_ (a' := ?_) ?_ ?_
              rotate_left
              ·exact z33_1
              refine one_ (i := 5) (N := some 40) (ba 8 63) rfl rfl (one_of HT_.out (by kernel_rfl)) (by decide) (fun K hK => ?_)
              refine goes_ Tryz.func24 (by kernel_rfl) rfl #[.agg #[.int .u32 (Go.bits .or .u32 a0_0 (ji17)), .int .i64 (wrap64 (a0_1 + 1))], .int .u32 a1] (by first | rfl | exact wanted_on rfl rfl rfl (by first | rfl | (simp [*]; done) | (simp [*, IntKind.wrap_u32]; done))) rfl rfl (by (try simp only [List.map_toArray, List.map_cons, List.map_nil]); first | done | (simp only [hji17]; rfl) | rfl | (simp only [List.length_drop, List.length_take]; rfl)) ?_
              with_reducible refine (addrs_In.calls kj2 (Go.bits .or .u32 a0_0 (ji17)) (wrap64 (a0_1 + 1)) a1 false _ A19.out).mono ?_
              rintro e w50 ⟨rfl, hb⟩
              refine ⟨_, rfl, ?_⟩
              replace BK302 := Aside0.mk (blk_below (g := gb302) (o := .cells #[.int .u32 a0_0, .int .i64 a0_1] 34 (0, 0)) (by (with_reducible repeat (first | refine blk_drewN ?_ _ | refine blk_drew ?_ | refine blk_alloc ?_ _)); exact BK302.out) hb)
              replace BK305 := Aside0.mk (blk_below (g := gb305) (o := .cells #[.int .u32 a0_0, .int .i64 (wrap64 (a0_1 + 1))] 34 (0, 0)) (by (with_reducible repeat (first | refine blk_drewN ?_ _ | refine blk_drew ?_ | refine blk_alloc ?_ _)); exact BK305.out) hb)
              replace BK306 := Aside0.mk (blk_below (g := gb306) (o := .cells #[.int .u32 (Go.bits .or .u32 a0_0 (ji17)), .int .i64 (wrap64 (a0_1 + 1))] 34 (0, 0)) (by (with_reducible repeat (first | refine blk_drewN ?_ _ | refine blk_drew ?_ | refine blk_alloc ?_ _)); exact BK306.out) hb)
              replace HB := Aside0.mk (below_step (by repeat (first | (with_reducible first | exact HB.out | apply below_alloc | apply pw_below_drewN | apply below_drew1 | refine below_set ?_ GE302.out | refine below_set ?_ GE305.out | refine below_set ?_ GE306.out) | exact HB.out)) hb)
              (try clear hb)
              (try clear hb2)
              (try clear hk)
              (try clear hi)
              refine hK.out _ _ (by exact ⟨(blk_cell BK305.out 0).trans rfl, (blk_cell BK305.out 1).trans rfl, (blk_cell BK306.out 0).trans rfl, (blk_cell BK306.out 1).trans rfl⟩) (fun hHeld => ?_)
              clear hK K
              refine norm_ (a' := ?_) ?_ ?_
              rotate_left
              ·exact z33_2
              refine pu_139 (i := 6) (N := some 7) (ba 8 127) ?_
              refine pu_139 (i := 7) (N := some 8) (ba 8 255) ?_
              refine done_ (done_of HT_.out (by kernel_rfl)) ?_
              try go_wp2
              replace BK302 := Aside0.mk (blk_drew BK302.out)
              replace BK305 := Aside0.mk (blk_drew BK305.out)
              replace BK306 := Aside0.mk (blk_drew BK306.out)
              replace HB := Aside0.mk (below_drew1 HB.out)
              refine start_ (n := 53) (S := fun w' => w'.cell? ⟨gb305, 0, none⟩ = some (.int .u32 a0_0) ∧ w'.cell? ⟨gb305, 1, none⟩ = some (.int .i64 (wrap64 (a0_1 + 1))) ∧ w'.cell? ⟨gb306, 0, none⟩ = some (.int .u32 (Go.bits .or .u32 a0_0 (ji17))) ∧ w'.cell? ⟨gb306, 1, none⟩ = some (.int .i64 (wrap64 (a0_1 + 1))) ∧ w'.cell? ⟨gb302, 0, none⟩ = some (.int .u32 a0_0) ∧ w'.cell? ⟨gb302, 1, none⟩ = some (.int .i64 a0_1)) (ds := []) (ba 53 0) (by kernel_rfl) rfl rfl ⟨(blk_cell BK305.out 0).trans rfl, (blk_cell BK305.out 1).trans rfl, (blk_cell BK306.out 0).trans rfl, (blk_cell BK306.out 1).trans rfl, (blk_cell BK302.out 0).trans rfl, (blk_cell BK302.out 1).trans rfl⟩ (fun hHeld => ?_); refine with_tabW gangwaylaw02_AddrsHalves.tab6 gangwaylaw02_AddrsHalves.bits6 (fun HT_ HW_ => ?_)
              generalize w50.drew = w51 at BK302 BK305 BK306 HB hHeld ⊢
              refine tk_bae (i := 0) (N := some 41) (ba 53 1) hHeld ?_
              refine one_ (i := 1) (N := some 42) (ba 53 3) rfl rfl (one_of HT_.out (by kernel_rfl)) (by decide) (fun K hK => ?_)
              refine goes_ Tryz.func22 (by kernel_rfl) rfl #[.agg #[.int .u32 a0_0, .int .i64 (wrap64 (a0_1 + 1))]] (by first | rfl | exact wanted_on rfl rfl rfl (by first | rfl | (simp [*]; done) | (simp [*, IntKind.wrap_u32]; done))) rfl rfl (by (try simp only [List.map_toArray, List.map_cons, List.map_nil]); first | done | rfl | (simp only [List.length_drop, List.length_take]; rfl)) ?_
              with_reducible refine (addrs_Net.calls kj2 a0_0 (wrap64 (a0_1 + 1)) true _ A20.out).mono ?_
              rintro e w52 ⟨rfl, hb⟩
              refine ⟨_, rfl, ?_⟩
              replace BK302 := Aside0.mk (blk_below (g := gb302) (o := .cells #[.int .u32 a0_0, .int .i64 a0_1] 34 (0, 0)) (by (with_reducible repeat (first | refine blk_drewN ?_ _ | refine blk_drew ?_ | refine blk_alloc ?_ _)); exact BK302.out) hb)
              replace BK305 := Aside0.mk (blk_below (g := gb305) (o := .cells #[.int .u32 a0_0, .int .i64 (wrap64 (a0_1 + 1))] 34 (0, 0)) (by (with_reducible repeat (first | refine blk_drewN ?_ _ | refine blk_drew ?_ | refine blk_alloc ?_ _)); exact BK305.out) hb)
              replace BK306 := Aside0.mk (blk_below (g := gb306) (o := .cells #[.int .u32 (Go.bits .or .u32 a0_0 (ji17)), .int .i64 (wrap64 (a0_1 + 1))] 34 (0, 0)) (by (with_reducible repeat (first | refine blk_drewN ?_ _ | refine blk_drew ?_ | refine blk_alloc ?_ _)); exact BK306.out) hb)
              replace HB := Aside0.mk (below_step (by repeat (first | (with_reducible first | exact HB.out | apply below_alloc | apply pw_below_drewN | apply below_drew1 | refine below_set ?_ GE302.out | refine below_set ?_ GE305.out | refine below_set ?_ GE306.out) | exact HB.out)) hb)
              (try clear hb)
              (try clear hb2)
              (try clear hk)
              (try clear hi)
              refine hK.out _ _ (by exact ⟨(blk_cell BK305.out 0).trans rfl, (blk_cell BK305.out 1).trans rfl, (blk_cell BK306.out 0).trans rfl, (blk_cell BK306.out 1).trans rfl, (blk_cell BK302.out 0).trans rfl, (blk_cell BK302.out 1).trans rfl⟩) (fun hHeld => ?_)
              clear hK K
              refine norm_ (a' := ?_) ?_ ?_
              rotate_left
              ·exact z33_3
              refine pu_139 (i := 2) (N := some 43) (ba 53 7) ?_
              refine tk_bae (i := 3) (N := some 44) (ba 53 15) hHeld ?_
              refine one_ (i := 4) (N := some 45) (ba 53 31) rfl rfl (one_of HT_.out (by kernel_rfl)) (by decide) (fun K hK => ?_)
              refine goes_ Tryz.func22 (by kernel_rfl) rfl #[.agg #[.int .u32 (Go.bits .or .u32 a0_0 (ji17)), .int .i64 (wrap64 (a0_1 + 1))]] (by first | rfl | exact wanted_on rfl rfl rfl (by first | rfl | (simp [*]; done) | (simp [*, IntKind.wrap_u32]; done))) rfl rfl (by (try simp only [List.map_toArray, List.map_cons, List.map_nil]); first | done | (simp only [hji17]; rfl) | rfl | (simp only [List.length_drop, List.length_take]; rfl)) ?_
              with_reducible refine (addrs_Net.calls kj2 (Go.bits .or .u32 a0_0 (ji17)) (wrap64 (a0_1 + 1)) true _ A22.out).mono ?_
              rintro e w53 ⟨rfl, hb⟩
              refine ⟨_, rfl, ?_⟩
              replace BK302 := Aside0.mk (blk_below (g := gb302) (o := .cells #[.int .u32 a0_0, .int .i64 a0_1] 34 (0, 0)) (by (with_reducible repeat (first | refine blk_drewN ?_ _ | refine blk_drew ?_ | refine blk_alloc ?_ _)); exact BK302.out) hb)
              replace BK305 := Aside0.mk (blk_below (g := gb305) (o := .cells #[.int .u32 a0_0, .int .i64 (wrap64 (a0_1 + 1))] 34 (0, 0)) (by (with_reducible repeat (first | refine blk_drewN ?_ _ | refine blk_drew ?_ | refine blk_alloc ?_ _)); exact BK305.out) hb)
              replace BK306 := Aside0.mk (blk_below (g := gb306) (o := .cells #[.int .u32 (Go.bits .or .u32 a0_0 (ji17)), .int .i64 (wrap64 (a0_1 + 1))] 34 (0, 0)) (by (with_reducible repeat (first | refine blk_drewN ?_ _ | refine blk_drew ?_ | refine blk_alloc ?_ _)); exact BK306.out) hb)
              replace HB := Aside0.mk (below_step (by repeat (first | (with_reducible first | exact HB.out | apply below_alloc | apply pw_below_drewN | apply below_drew1 | refine below_set ?_ GE302.out | refine below_set ?_ GE305.out | refine below_set ?_ GE306.out) | exact HB.out)) hb)
              (try clear hb)
              (try clear hb2)
              (try clear hk)
              (try clear hi)
              refine hK.out _ _ (by exact ⟨(blk_cell BK305.out 0).trans rfl, (blk_cell BK305.out 1).trans rfl, (blk_cell BK306.out 0).trans rfl, (blk_cell BK306.out 1).trans rfl, (blk_cell BK302.out 0).trans rfl, (blk_cell BK302.out 1).trans rfl⟩) (fun hHeld => ?_)
              clear hK K
              refine norm_ (a' := ?_) ?_ ?_
              rotate_left
              ·exact z33_4
              refine pu_139 (i := 5) (N := some 46) (ba 53 63) ?_
              refine pu_139 (i := 6) (N := some 47) (ba 53 127) ?_
              refine pu_139 (i := 7) (N := some 48) (ba 53 255) ?_
              refine pu_139 (i := 8) (N := some 49) (ba 53 511) ?_
              refine pu_139 (i := 9) (N := some 50) (ba 53 1023) ?_
              refine pu_139 (i := 10) (N := some 51) (ba 53 2047) ?_
              refine pu_139 (i := 11) (N := some 52) (ba 53 4095) ?_
              refine pu_139 (i := 12) (N := some 53) (ba 53 8191) ?_
              refine pu_139 (i := 13) (N := some 54) (ba 53 16383) ?_
              refine pu_139 (i := 15) (N := some 56) (ba 53 49151) ?_
              refine pu_139 (i := 17) (N := some 58) (ba 53 180223) ?_
              refine tk_bae (i := 14) (N := some 55) (ba 53 196607) hHeld ?_
              refine one_ (i := 16) (N := some 57) (ba 53 262143) rfl rfl (one_of HT_.out (by kernel_rfl)) (by decide) (fun K hK => ?_)
              refine goes_ Tryz.func24 (by kernel_rfl) rfl #[.agg #[.int .u32 a0_0, .int .i64 a0_1], .int .u32 a1] (by first | rfl | exact wanted_on rfl rfl rfl (by first | rfl | (simp [*]; done) | (simp [*, IntKind.wrap_u32]; done))) rfl rfl (by (try simp only [List.map_toArray, List.map_cons, List.map_nil]); first | done | rfl | (simp only [List.length_drop, List.length_take]; rfl)) ?_
              with_reducible refine (addrs_In.calls kj2 a0_0 a0_1 a1 t311 _ A26.out).mono ?_
              rintro e w54 ⟨rfl, hb⟩
              refine ⟨_, rfl, ?_⟩
              replace BK302 := Aside0.mk (blk_below (g := gb302) (o := .cells #[.int .u32 a0_0, .int .i64 a0_1] 34 (0, 0)) (by (with_reducible repeat (first | refine blk_drewN ?_ _ | refine blk_drew ?_ | refine blk_alloc ?_ _)); exact BK302.out) hb)
              replace BK305 := Aside0.mk (blk_below (g := gb305) (o := .cells #[.int .u32 a0_0, .int .i64 (wrap64 (a0_1 + 1))] 34 (0, 0)) (by (with_reducible repeat (first | refine blk_drewN ?_ _ | refine blk_drew ?_ | refine blk_alloc ?_ _)); exact BK305.out) hb)
              replace BK306 := Aside0.mk (blk_below (g := gb306) (o := .cells #[.int .u32 (Go.bits .or .u32 a0_0 (ji17)), .int .i64 (wrap64 (a0_1 + 1))] 34 (0, 0)) (by (with_reducible repeat (first | refine blk_drewN ?_ _ | refine blk_drew ?_ | refine blk_alloc ?_ _)); exact BK306.out) hb)
              replace HB := Aside0.mk (below_step (by repeat (first | (with_reducible first | exact HB.out | apply below_alloc | apply pw_below_drewN | apply below_drew1 | refine below_set ?_ GE302.out | refine below_set ?_ GE305.out | refine below_set ?_ GE306.out) | exact HB.out)) hb)
              (try clear hb)
              (try clear hb2)
              (try clear hk)
              (try clear hi)
              refine hK.out _ _ (by exact ⟨(blk_cell BK305.out 0).trans rfl, (blk_cell BK305.out 1).trans rfl, (blk_cell BK306.out 0).trans rfl, (blk_cell BK306.out 1).trans rfl, (blk_cell BK302.out 0).trans rfl, (blk_cell BK302.out 1).trans rfl⟩) (fun hHeld => ?_)
              clear hK K
              refine norm_ (a' := ?_) ?_ ?_
              rotate_left
              ·exact z33_5
              refine pu_139 (i := 18) (N := some 59) (ba 53 524287) ?_
              refine pure_ (i := 19) (N := some 60) (v := undef) (a' := ?_) (ba 53 1048575) rfl rfl (any_of HT_.out (by kernel_rfl)) (fun _ _ _ h => h) (Or.inr ⟨(by first | rfl | exact wanted_off rfl rfl rfl (by first | rfl | (simp [*]; done) | (simp [*, IntKind.wrap_u32]; done) | (simp_all [IntKind.wrap_u32]; done))), rfl⟩) ?_ ?_
              rotate_left
              ·simp only [Act.put, List.setIfInBounds_toArray, List.set_cons_zero, List.set_cons_succ, i64_w, i32_w]
               rfl
              refine pu_139 (i := 20) (N := some 61) (ba 53 2097151) ?_
              refine pu_139 (i := 21) (N := some 62) (ba 53 4194303) ?_
              refine pu_139 (i := 22) (N := some 63) (ba 53 8388607) ?_
              refine pu_139 (i := 23) (N := some 64) (ba 53 16777215) ?_
              refine tk_bae (i := 24) (N := some 65) (ba 53 33554431) hHeld ?_
              refine tk_bae (i := 26) (N := some 67) (ba 53 100663295) hHeld ?_
              refine one_ (i := 25) (N := some 66) (ba 53 134217727) rfl rfl (one_of HT_.out (by kernel_rfl)) (by decide) (fun K hK => ?_)
              refine goes_ Tryz.func26 (by kernel_rfl) rfl #[.agg #[.int .u32 (Go.bits .or .u32 a0_0 (ji17)), .int .i64 (wrap64 (a0_1 + 1))]] (by first | rfl | exact wanted_on rfl rfl rfl (by first | rfl | (simp [*]; done) | (simp [*, IntKind.wrap_u32]; done))) rfl rfl (by (try simp only [List.map_toArray, List.map_cons, List.map_nil]); first | done | (simp only [hji17]; rfl) | rfl | (simp only [List.length_drop, List.length_take]; rfl)) ?_
              with_reducible refine (addrs_Last.calls kj2 (Go.bits .or .u32 a0_0 (ji17)) (wrap64 (a0_1 + 1)) t312 _ A28.out).mono ?_
              rintro e w55 ⟨rfl, hb⟩
              refine ⟨_, rfl, ?_⟩
              replace BK302 := Aside0.mk (blk_below (g := gb302) (o := .cells #[.int .u32 a0_0, .int .i64 a0_1] 34 (0, 0)) (by (with_reducible repeat (first | refine blk_drewN ?_ _ | refine blk_drew ?_ | refine blk_alloc ?_ _)); exact BK302.out) hb)
              replace BK305 := Aside0.mk (blk_below (g := gb305) (o := .cells #[.int .u32 a0_0, .int .i64 (wrap64 (a0_1 + 1))] 34 (0, 0)) (by (with_reducible repeat (first | refine blk_drewN ?_ _ | refine blk_drew ?_ | refine blk_alloc ?_ _)); exact BK305.out) hb)
              replace BK306 := Aside0.mk (blk_below (g := gb306) (o := .cells #[.int .u32 (Go.bits .or .u32 a0_0 (ji17)), .int .i64 (wrap64 (a0_1 + 1))] 34 (0, 0)) (by (with_reducible repeat (first | refine blk_drewN ?_ _ | refine blk_drew ?_ | refine blk_alloc ?_ _)); exact BK306.out) hb)
              replace HB := Aside0.mk (below_step (by repeat (first | (with_reducible first | exact HB.out | apply below_alloc | apply pw_below_drewN | apply below_drew1 | refine below_set ?_ GE302.out | refine below_set ?_ GE305.out | refine below_set ?_ GE306.out) | exact HB.out)) hb)
              (try clear hb)
              (try clear hb2)
              (try clear hk)
              (try clear hi)
              refine hK.out _ _ (by exact ⟨(blk_cell BK305.out 0).trans rfl, (blk_cell BK305.out 1).trans rfl, (blk_cell BK306.out 0).trans rfl, (blk_cell BK306.out 1).trans rfl, (blk_cell BK302.out 0).trans rfl, (blk_cell BK302.out 1).trans rfl⟩) (fun hHeld => ?_)
              clear hK K
              refine norm_ (a' := ?_) ?_ ?_
              rotate_left
              ·exact z33_6
              refine one_ (i := 27) (N := some 68) (ba 53 268435455) rfl rfl (one_of HT_.out (by kernel_rfl)) (by decide) (fun K hK => ?_)
              refine goes_ Tryz.func26 (by kernel_rfl) rfl #[.agg #[.int .u32 a0_0, .int .i64 a0_1]] (by first | rfl | exact wanted_on rfl rfl rfl (by first | rfl | (simp [*]; done) | (simp [*, IntKind.wrap_u32]; done))) rfl rfl (by (try simp only [List.map_toArray, List.map_cons, List.map_nil]); first | done | rfl | (simp only [List.length_drop, List.length_take]; rfl)) ?_
              with_reducible refine (addrs_Last.calls kj2 a0_0 a0_1 t313 _ A29.out).mono ?_
              rintro e w56 ⟨rfl, hb⟩
              refine ⟨_, rfl, ?_⟩
              replace BK302 := Aside0.mk (blk_below (g := gb302) (o := .cells #[.int .u32 a0_0, .int .i64 a0_1] 34 (0, 0)) (by (with_reducible repeat (first | refine blk_drewN ?_ _ | refine blk_drew ?_ | refine blk_alloc ?_ _)); exact BK302.out) hb)
              replace BK305 := Aside0.mk (blk_below (g := gb305) (o := .cells #[.int .u32 a0_0, .int .i64 (wrap64 (a0_1 + 1))] 34 (0, 0)) (by (with_reducible repeat (first | refine blk_drewN ?_ _ | refine blk_drew ?_ | refine blk_alloc ?_ _)); exact BK305.out) hb)
              replace BK306 := Aside0.mk (blk_below (g := gb306) (o := .cells #[.int .u32 (Go.bits .or .u32 a0_0 (ji17)), .int .i64 (wrap64 (a0_1 + 1))] 34 (0, 0)) (by (with_reducible repeat (first | refine blk_drewN ?_ _ | refine blk_drew ?_ | refine blk_alloc ?_ _)); exact BK306.out) hb)
              replace HB := Aside0.mk (below_step (by repeat (first | (with_reducible first | exact HB.out | apply below_alloc | apply pw_below_drewN | apply below_drew1 | refine below_set ?_ GE302.out | refine below_set ?_ GE305.out | refine below_set ?_ GE306.out) | exact HB.out)) hb)
              (try clear hb)
              (try clear hb2)
              (try clear hk)
              (try clear hi)
              refine hK.out _ _ (by exact ⟨(blk_cell BK305.out 0).trans rfl, (blk_cell BK305.out 1).trans rfl, (blk_cell BK306.out 0).trans rfl, (blk_cell BK306.out 1).trans rfl, (blk_cell BK302.out 0).trans rfl, (blk_cell BK302.out 1).trans rfl⟩) (fun hHeld => ?_)
              clear hK K
              refine norm_ (a' := ?_) ?_ ?_
              rotate_left
              ·exact z33_7
              refine pu_139 (i := 28) (N := some 69) (ba 53 536870911) ?_
              refine pu_139 (i := 29) (N := some 70) (ba 53 1073741823) ?_
              refine pu_139 (i := 30) (N := some 71) (ba 53 2147483647) ?_
              refine pu_139 (i := 34) (N := some 75) (ba 53 19327352831) ?_
              refine tk_bae (i := 31) (N := some 72) (ba 53 21474836479) hHeld ?_
              refine tk_bae (i := 35) (N := some 76) (ba 53 55834574847) hHeld ?_
              refine one_ (i := 32) (N := some 73) (ba 53 60129542143) rfl rfl (one_of HT_.out (by kernel_rfl)) (by decide) (fun K hK => ?_)
              refine goes_ Tryz.func26 (by kernel_rfl) rfl #[.agg #[.int .u32 a0_0, .int .i64 (wrap64 (a0_1 + 1))]] (by first | rfl | exact wanted_on rfl rfl rfl (by first | rfl | (simp [*]; done) | (simp [*, IntKind.wrap_u32]; done))) rfl rfl (by (try simp only [List.map_toArray, List.map_cons, List.map_nil]); first | done | rfl | (simp only [List.length_drop, List.length_take]; rfl)) ?_
              with_reducible refine (addrs_Last.calls kj2 a0_0 (wrap64 (a0_1 + 1)) t314 _ A31.out).mono ?_
              rintro e w57 ⟨rfl, hb⟩
              refine ⟨_, rfl, ?_⟩
              replace BK302 := Aside0.mk (blk_below (g := gb302) (o := .cells #[.int .u32 a0_0, .int .i64 a0_1] 34 (0, 0)) (by (with_reducible repeat (first | refine blk_drewN ?_ _ | refine blk_drew ?_ | refine blk_alloc ?_ _)); exact BK302.out) hb)
              replace BK305 := Aside0.mk (blk_below (g := gb305) (o := .cells #[.int .u32 a0_0, .int .i64 (wrap64 (a0_1 + 1))] 34 (0, 0)) (by (with_reducible repeat (first | refine blk_drewN ?_ _ | refine blk_drew ?_ | refine blk_alloc ?_ _)); exact BK305.out) hb)
              replace BK306 := Aside0.mk (blk_below (g := gb306) (o := .cells #[.int .u32 (Go.bits .or .u32 a0_0 (ji17)), .int .i64 (wrap64 (a0_1 + 1))] 34 (0, 0)) (by (with_reducible repeat (first | refine blk_drewN ?_ _ | refine blk_drew ?_ | refine blk_alloc ?_ _)); exact BK306.out) hb)
              replace HB := Aside0.mk (below_step (by repeat (first | (with_reducible first | exact HB.out | apply below_alloc | apply pw_below_drewN | apply below_drew1 | refine below_set ?_ GE302.out | refine below_set ?_ GE305.out | refine below_set ?_ GE306.out) | exact HB.out)) hb)
              (try clear hb)
              (try clear hb2)
              (try clear hk)
              (try clear hi)
              refine hK.out _ _ (by exact ⟨(blk_cell BK305.out 0).trans rfl, (blk_cell BK305.out 1).trans rfl, (blk_cell BK306.out 0).trans rfl, (blk_cell BK306.out 1).trans rfl, (blk_cell BK302.out 0).trans rfl, (blk_cell BK302.out 1).trans rfl⟩) (fun hHeld => ?_)
              clear hK K
              refine norm_ (a' := ?_) ?_ ?_
              rotate_left
              ·exact z33_8
              refine pu_139 (i := 33) (N := some 74) (ba 53 68719476735) ?_
              refine pu_139 (i := 36) (N := some 77) (ba 53 137438953471) ?_
              refine pu_139 (i := 37) (N := some 78) (ba 53 274877906943) ?_
              refine pu_139 (i := 38) (N := some 79) (ba 53 549755813887) ?_
              refine tk_bae (i := 39) (N := some 80) (ba 53 1099511627775) hHeld ?_
              refine tk_bae (i := 40) (N := some 81) (ba 53 2199023255551) hHeld ?_
              refine one_ (i := 41) (N := some 82) (ba 53 4398046511103) rfl rfl (one_of HT_.out (by kernel_rfl)) (by decide) (fun K hK => ?_)
              refine goes_ Tryz.func28 (by kernel_rfl) rfl #[.agg #[.int .u32 a0_0, .int .i64 (wrap64 (a0_1 + 1))], .agg #[.int .u32 a0_0, .int .i64 a0_1]] (by first | rfl | exact wanted_on rfl rfl rfl (by first | rfl | (simp [*]; done) | (simp [*, IntKind.wrap_u32]; done))) rfl rfl (by (try simp only [List.map_toArray, List.map_cons, List.map_nil]); first | done | rfl | (simp only [List.length_drop, List.length_take]; rfl)) ?_
              with_reducible refine (addrs_Near.calls kj2 a0_0 (wrap64 (a0_1 + 1)) a0_0 a0_1 true _ A33.out).mono ?_
              rintro e w58 ⟨rfl, hb⟩
              refine ⟨_, rfl, ?_⟩
              replace BK302 := Aside0.mk (blk_below (g := gb302) (o := .cells #[.int .u32 a0_0, .int .i64 a0_1] 34 (0, 0)) (by (with_reducible repeat (first | refine blk_drewN ?_ _ | refine blk_drew ?_ | refine blk_alloc ?_ _)); exact BK302.out) hb)
              replace BK305 := Aside0.mk (blk_below (g := gb305) (o := .cells #[.int .u32 a0_0, .int .i64 (wrap64 (a0_1 + 1))] 34 (0, 0)) (by (with_reducible repeat (first | refine blk_drewN ?_ _ | refine blk_drew ?_ | refine blk_alloc ?_ _)); exact BK305.out) hb)
              replace BK306 := Aside0.mk (blk_below (g := gb306) (o := .cells #[.int .u32 (Go.bits .or .u32 a0_0 (ji17)), .int .i64 (wrap64 (a0_1 + 1))] 34 (0, 0)) (by (with_reducible repeat (first | refine blk_drewN ?_ _ | refine blk_drew ?_ | refine blk_alloc ?_ _)); exact BK306.out) hb)
              replace HB := Aside0.mk (below_step (by repeat (first | (with_reducible first | exact HB.out | apply below_alloc | apply pw_below_drewN | apply below_drew1 | refine below_set ?_ GE302.out | refine below_set ?_ GE305.out | refine below_set ?_ GE306.out) | exact HB.out)) hb)
              (try clear hb)
              (try clear hb2)
              (try clear hk)
              (try clear hi)
              refine hK.out _ _ (by exact ⟨(blk_cell BK305.out 0).trans rfl, (blk_cell BK305.out 1).trans rfl, (blk_cell BK306.out 0).trans rfl, (blk_cell BK306.out 1).trans rfl, (blk_cell BK302.out 0).trans rfl, (blk_cell BK302.out 1).trans rfl⟩) (fun hHeld => ?_)
              clear hK K
              refine norm_ (a' := ?_) ?_ ?_
              rotate_left
              ·exact z33_9
              refine pu_139 (i := 42) (N := some 83) (ba 53 8796093022207) ?_
              refine pu_139 (i := 43) (N := some 84) (ba 53 17592186044415) ?_
              refine tk_bae (i := 44) (N := some 85) (ba 53 35184372088831) hHeld ?_
              refine tk_bae (i := 45) (N := some 86) (ba 53 70368744177663) hHeld ?_
              refine one_ (i := 46) (N := some 87) (ba 53 140737488355327) rfl rfl (one_of HT_.out (by kernel_rfl)) (by decide) (fun K hK => ?_)
              refine goes_ Tryz.func28 (by kernel_rfl) rfl #[.agg #[.int .u32 a0_0, .int .i64 a0_1], .agg #[.int .u32 a0_0, .int .i64 (wrap64 (a0_1 + 1))]] (by first | rfl | exact wanted_on rfl rfl rfl (by first | rfl | (simp [*]; done) | (simp [*, IntKind.wrap_u32]; done))) rfl rfl (by (try simp only [List.map_toArray, List.map_cons, List.map_nil]); first | done | rfl | (simp only [List.length_drop, List.length_take]; rfl)) ?_
              with_reducible refine (addrs_Near.calls kj2 a0_0 a0_1 a0_0 (wrap64 (a0_1 + 1)) false _ A35.out).mono ?_
              rintro e w59 ⟨rfl, hb⟩
              refine ⟨_, rfl, ?_⟩
              replace BK302 := Aside0.mk (blk_below (g := gb302) (o := .cells #[.int .u32 a0_0, .int .i64 a0_1] 34 (0, 0)) (by (with_reducible repeat (first | refine blk_drewN ?_ _ | refine blk_drew ?_ | refine blk_alloc ?_ _)); exact BK302.out) hb)
              replace BK305 := Aside0.mk (blk_below (g := gb305) (o := .cells #[.int .u32 a0_0, .int .i64 (wrap64 (a0_1 + 1))] 34 (0, 0)) (by (with_reducible repeat (first | refine blk_drewN ?_ _ | refine blk_drew ?_ | refine blk_alloc ?_ _)); exact BK305.out) hb)
              replace BK306 := Aside0.mk (blk_below (g := gb306) (o := .cells #[.int .u32 (Go.bits .or .u32 a0_0 (ji17)), .int .i64 (wrap64 (a0_1 + 1))] 34 (0, 0)) (by (with_reducible repeat (first | refine blk_drewN ?_ _ | refine blk_drew ?_ | refine blk_alloc ?_ _)); exact BK306.out) hb)
              replace HB := Aside0.mk (below_step (by repeat (first | (with_reducible first | exact HB.out | apply below_alloc | apply pw_below_drewN | apply below_drew1 | refine below_set ?_ GE302.out | refine below_set ?_ GE305.out | refine below_set ?_ GE306.out) | exact HB.out)) hb)
              (try clear hb)
              (try clear hb2)
              (try clear hk)
              (try clear hi)
              refine hK.out _ _ (by exact ⟨(blk_cell BK305.out 0).trans rfl, (blk_cell BK305.out 1).trans rfl, (blk_cell BK306.out 0).trans rfl, (blk_cell BK306.out 1).trans rfl, (blk_cell BK302.out 0).trans rfl, (blk_cell BK302.out 1).trans rfl⟩) (fun hHeld => ?_)
              clear hK K
              refine norm_ (a' := ?_) ?_ ?_
              rotate_left
              ·exact z33_10
              refine pu_139 (i := 47) (N := some 88) (ba 53 281474976710655) ?_
              refine pu_139 (i := 48) (N := some 89) (ba 53 562949953421311) ?_
              refine pu_139 (i := 49) (N := some 90) (ba 53 1125899906842623) ?_
              refine one_ (i := 50) (N := some 91) (ba 53 2251799813685247) rfl rfl (one_of HT_.out (by kernel_rfl)) (by decide) (fun K hK => ?_)
              refine goes_ Tryz.func13 (by kernel_rfl) rfl #[] (by first | rfl | exact wanted_on rfl rfl rfl (by first | rfl | (simp [*]; done) | (simp [*, IntKind.wrap_u32]; done))) rfl rfl (by (try simp only [List.map_toArray, List.map_cons, List.map_nil]); first | done | rfl | (simp only [List.length_drop, List.length_take]; rfl)) ?_
              with_reducible refine (gangwaylaw02_fixed.calls kj2  t317 _ ?sideL A37.out).mono ?_
              case sideL => exact laid_below HLD.out (by repeat (first | (with_reducible first | exact HB.out | apply below_alloc | apply pw_below_drewN | apply below_drew1 | refine below_set ?_ GE302.out | refine below_set ?_ GE305.out | refine below_set ?_ GE306.out) | exact HB.out))
              rintro e w60 ⟨rfl, hb⟩
              refine ⟨_, rfl, ?_⟩
              replace BK302 := Aside0.mk (blk_below (g := gb302) (o := .cells #[.int .u32 a0_0, .int .i64 a0_1] 34 (0, 0)) (by (with_reducible repeat (first | refine blk_drewN ?_ _ | refine blk_drew ?_ | refine blk_alloc ?_ _)); exact BK302.out) hb)
              replace BK305 := Aside0.mk (blk_below (g := gb305) (o := .cells #[.int .u32 a0_0, .int .i64 (wrap64 (a0_1 + 1))] 34 (0, 0)) (by (with_reducible repeat (first | refine blk_drewN ?_ _ | refine blk_drew ?_ | refine blk_alloc ?_ _)); exact BK305.out) hb)
              replace BK306 := Aside0.mk (blk_below (g := gb306) (o := .cells #[.int .u32 (Go.bits .or .u32 a0_0 (ji17)), .int .i64 (wrap64 (a0_1 + 1))] 34 (0, 0)) (by (with_reducible repeat (first | refine blk_drewN ?_ _ | refine blk_drew ?_ | refine blk_alloc ?_ _)); exact BK306.out) hb)
              replace HB := Aside0.mk (below_step (by repeat (first | (with_reducible first | exact HB.out | apply below_alloc | apply pw_below_drewN | apply below_drew1 | refine below_set ?_ GE302.out | refine below_set ?_ GE305.out | refine below_set ?_ GE306.out) | exact HB.out)) hb)
              (try clear hb)
              (try clear hb2)
              (try clear hk)
              (try clear hi)
              refine hK.out _ _ (by exact ⟨(blk_cell BK305.out 0).trans rfl, (blk_cell BK305.out 1).trans rfl, (blk_cell BK306.out 0).trans rfl, (blk_cell BK306.out 1).trans rfl, (blk_cell BK302.out 0).trans rfl, (blk_cell BK302.out 1).trans rfl⟩) (fun hHeld => ?_)
              clear hK K
              refine norm_ (a' := ?_) ?_ ?_
              rotate_left
              ·exact z33_11
              refine pu_139 (i := 51) (N := some 92) (ba 53 4503599627370495) ?_
              refine pu_139 (i := 52) (N := some 4) (ba 53 9007199254740991) ?_
              refine done_ (done_of HT_.out (by kernel_rfl)) ?_
              try go_wp2
              go_ret
              exact ⟨(by first | rfl | (simp [errW_none, errW_some] <;> rfl) | (simp only [← hji15, ← hji17]; first | rfl | (simp [errW_none, errW_some] <;> rfl)) | (simp [*, errW_none, errW_some] <;> rfl) | (simp [*, IntKind.wrap_u32]; done) | (simp_all [IntKind.wrap_u32]; done)), (by repeat (first | (with_reducible first | exact HB.out | apply below_alloc | apply pw_below_drewN | apply below_drew1 | refine below_set ?_ GE302.out | refine below_set ?_ GE305.out | refine below_set ?_ GE306.out) | exact HB.out))⟩
            ·replace c34 := Bool.eq_false_iff.mpr c34
             subst c34
             exact z33_0
           ·rw [if_neg c32] at H
            have c32b0 : (((t314 + 1) % 4294967296) == (Go.bits .or .u32 a0_0 (ji17))) = false := beq_eq_false_iff_ne.mpr c32
            have c32b0w : (IntKind.u32.wrap (t314 + 1) == (Go.bits .or .u32 a0_0 (ji17))) = false := by rw [IntKind.wrap_u32]; exact c32b0
            have c32b1 : (((t314 + 1) % 4294967296) != (Go.bits .or .u32 a0_0 (ji17))) = true := bne_iff_ne.mpr c32
            have c32b1w : (IntKind.u32.wrap (t314 + 1) != (Go.bits .or .u32 a0_0 (ji17))) = true := by rw [IntKind.wrap_u32]; exact c32b1
            exact absurd H (by simp)
          ·rw [if_neg c30] at H
           have c30b0 : (t312 == t313) = false := beq_eq_false_iff_ne.mpr c30
           have c30b1 : (t312 != t313) = true := bne_iff_ne.mpr c30
           exact absurd H (by simp)
         ·rw [if_neg c27] at H
          have c27b0 : (t311 == true) = false := by simpa using c27
          (try (have c27b1 : decide (t311 = true) = false := by simpa using c27))
          (try (have c27b2 : (t311 == true) = false := by simpa using c27))
          (try (have c27b3 : ¬ (t311 = true) := by simpa using c27))
          clear c27
          exact absurd H (by simp)
       ·replace c24 := Bool.eq_false_iff.mpr c24
        subst c24
        rw [if_neg (show ¬ (false = true) by decide)] at H
        replace H := Option.bind_eq_some_iff.mp H
        obtain ⟨t318, A610, H⟩ := H
        try dsimp only at H
        have A61 := Aside0.mk A610
        clear A610
        by_cases c62 : (t318 == t308) = true
        ·rw [if_pos c62] at H
         have c62b0 : (t318 == t308) = true := c62
         (try (have c62b1 : decide (t318 = t308) = true := by simpa using c62))
         (try (have c62b2 : (t318 == t308) = true := by simpa using c62))
         clear c62
         replace H := Option.bind_eq_some_iff.mp H
         obtain ⟨t319, A630, H⟩ := H
         try dsimp only at H
         have A63 := Aside0.mk A630
         clear A630
         replace H := Option.bind_eq_some_iff.mp H
         obtain ⟨t320, A640, H⟩ := H
         try dsimp only at H
         have A64 := Aside0.mk A640
         clear A640
         by_cases c65 : t319 = t320
         ·rw [if_pos c65] at H
          have c65b0 : (t319 == t320) = true := beq_iff_eq.mpr c65
          have c65b1 : (t319 != t320) = false := bne_eq_false_iff_eq.mpr c65
          clear c65
          replace H := Option.bind_eq_some_iff.mp H
          obtain ⟨t321, A660, H⟩ := H
          try dsimp only at H
          have A66 := Aside0.mk A660
          clear A660
          by_cases c67 : ((t321 + 1) % 4294967296) = (Go.bits .or .u32 a0_0 (ji17))
          ·rw [if_pos c67] at H
           have c67b0 : (((t321 + 1) % 4294967296) == (Go.bits .or .u32 a0_0 (ji17))) = true := beq_iff_eq.mpr c67
           have c67b0w : (IntKind.u32.wrap (t321 + 1) == (Go.bits .or .u32 a0_0 (ji17))) = true := by rw [IntKind.wrap_u32]; exact c67b0
           have c67b1 : (((t321 + 1) % 4294967296) != (Go.bits .or .u32 a0_0 (ji17))) = false := bne_eq_false_iff_eq.mpr c67
           have c67b1w : (IntKind.u32.wrap (t321 + 1) != (Go.bits .or .u32 a0_0 (ji17))) = false := by rw [IntKind.wrap_u32]; exact c67b1
           clear c67
           replace H := Option.bind_eq_some_iff.mp H
           obtain ⟨t322, A680, H⟩ := H
           try dsimp only at H
           have A68 := Aside0.mk A680
           clear A680
           by_cases c69 : t322 = true
           ·subst c69
            rw [if_pos rfl] at H
            replace H := Option.bind_eq_some_iff.mp H
            obtain ⟨t323, A700, H⟩ := H
            try dsimp only at H
            have A70 := Aside0.mk A700
            clear A700
            by_cases c71 : t323 = true
            ·subst c71
             rw [if_pos rfl] at H
             exact absurd H (by simp)
            ·replace c71 := Bool.eq_false_iff.mpr c71
             subst c71
             rw [if_neg (show ¬ (false = true) by decide)] at H
             replace H := Option.bind_eq_some_iff.mp H
             obtain ⟨t324, A720, H⟩ := H
             try dsimp only at H
             have A72 := Aside0.mk A720
             clear A720
             obtain rfl := Option.some.inj H
             have hcz73_0 : wc.cell? ⟨gb302, 0, none⟩ = some (.int .u32 a0_0) := (blk_cell BK302.out 0).trans rfl
             have hcz73_1 : wc.cell? ⟨gb302, 1, none⟩ = some (.int .i64 a0_1) := (blk_cell BK302.out 1).trans rfl
             have hfz73_0 := blk_frozen BK302.out 0
             have hfz73_1 := blk_frozen BK302.out 1
             try go_wp2_with (first | ((with_reducible refine gate_dst (N := 5) rfl ?_); refine box_event (by rfl) (N := 5) (by rfl) (cs := #[.int .u32 0, .int .i64 0]) (t := 34) (by first | (go_simp; done) | (go_simp; rfl)) ?_; intro gb305 hg w74 hbox hb; have BK305 := Aside0.mk (hbox); have GE305 := Aside0.mk ((by rw [hg]; exact (below_size (by repeat (first | (with_reducible first | exact HB.out | apply below_alloc | apply pw_below_drewN | apply below_drew1 | refine below_set ?_ GE302.out) | exact HB.out))) : w.heap.size ≤ gb305)); have NB302_305 := Aside0.mk ((by rw [hg]; exact Nat.ne_of_lt (blk_lt (g := gb302) (by (with_reducible repeat (first | refine blk_drewN ?_ _ | refine blk_drew ?_ | refine blk_alloc ?_ _)); exact BK302.out)) : gb302 ≠ gb305)); have NB305_302 := Aside0.mk ((by rw [hg]; exact Nat.ne_of_gt (blk_lt (g := gb302) (by (with_reducible repeat (first | refine blk_drewN ?_ _ | refine blk_drew ?_ | refine blk_alloc ?_ _)); exact BK302.out)) : gb305 ≠ gb302)); replace BK302 := Aside0.mk (blk_below (g := gb302) (by (with_reducible repeat (first | refine blk_drewN ?_ _ | refine blk_drew ?_ | refine blk_alloc ?_ _)); exact BK302.out) hb); replace HB := Aside0.mk (below_step (by repeat (first | (with_reducible first | exact HB.out | apply below_alloc | apply pw_below_drewN | apply below_drew1 | refine below_set ?_ GE302.out) | exact HB.out)) hb); have hcy1_302_0 := (show World.cell? _ ⟨gb302, 0, none⟩ = some (.int .u32 a0_0) from (blk_cell BK302.out 0).trans rfl); have hcy1_302_1 := (show World.cell? _ ⟨gb302, 1, none⟩ = some (.int .i64 a0_1) from (blk_cell BK302.out 1).trans rfl); clear hb hbox hg; have hnb75 := NB305_302.out; have hnc75 := NB302_305.out; have hcz76_0 : w74.cell? ⟨gb305, 0, none⟩ = some (.int .u32 0) := (blk_cell BK305.out 0).trans rfl; have hcz76_1 : w74.cell? ⟨gb305, 1, none⟩ = some (.int .i64 0) := (blk_cell BK305.out 1).trans rfl; have hfz76_0 := blk_frozen BK305.out 0; have hfz76_1 := blk_frozen BK305.out 1))
             have n0_ : Aside0 (((w74.setCell ⟨gb305, 0, none⟩ (.int .u32 a0_0)).setCell ⟨gb305, 1, none⟩ (.int .i64 (wrap64 (a0_1 + 1)))).heap[gb302]? = some (.cells #[.int .u32 a0_0, .int .i64 a0_1] 34 (0, 0))) := ⟨(by (with_reducible repeat (first | refine blk_drewN ?_ _ | refine blk_drew ?_ | refine blk_alloc ?_ _ | refine blk_far ?_ NB302_305.out _)); exact BK302.out)⟩
             have n1_ : Aside0 (((w74.setCell ⟨gb305, 0, none⟩ (.int .u32 a0_0)).setCell ⟨gb305, 1, none⟩ (.int .i64 (wrap64 (a0_1 + 1)))).heap[gb305]? = some (.cells #[.int .u32 a0_0, .int .i64 (wrap64 (a0_1 + 1))] 34 (0, 0))) := ⟨(by (with_reducible repeat (first | refine blk_drewN ?_ _ | refine blk_drew ?_ | refine blk_alloc ?_ _)); refine blk_put (cs := #[.int .u32 a0_0, .int .i64 0]) ?_ 1 _ rfl; (with_reducible repeat (first | refine blk_drewN ?_ _ | refine blk_drew ?_ | refine blk_alloc ?_ _)); refine blk_put (cs := #[.int .u32 0, .int .i64 0]) ?_ 0 _ rfl; (with_reducible repeat (first | refine blk_drewN ?_ _ | refine blk_drew ?_ | refine blk_alloc ?_ _)); exact BK305.out)⟩
             have n2_ : Aside0 (Below w.heap.size w ((w74.setCell ⟨gb305, 0, none⟩ (.int .u32 a0_0)).setCell ⟨gb305, 1, none⟩ (.int .i64 (wrap64 (a0_1 + 1))))) := ⟨(by repeat (first | (with_reducible first | exact HB.out | apply below_alloc | apply pw_below_drewN | apply below_drew1 | refine below_set ?_ GE302.out | refine below_set ?_ GE305.out) | exact HB.out))⟩
             (try clear BK302)
             (try clear BK305)
             (try clear HB)
             generalize ((w74.setCell ⟨gb305, 0, none⟩ (.int .u32 a0_0)).setCell ⟨gb305, 1, none⟩ (.int .i64 (wrap64 (a0_1 + 1)))) = w77 at n0_ n1_ n2_ ⊢
             have BK302 := n0_
             have BK305 := n1_
             have HB := n2_
             clear n0_ n1_ n2_
             replace BK302 := Aside0.mk (blk_drew BK302.out)
             replace BK305 := Aside0.mk (blk_drew BK305.out)
             replace HB := Aside0.mk (below_drew1 HB.out)
             refine start_ (n := 13) (S := fun w' => w'.cell? ⟨gb302, 0, none⟩ = some (.int .u32 a0_0) ∧ w'.cell? ⟨gb302, 1, none⟩ = some (.int .i64 a0_1)) (ds := []) (ba 13 0) (by kernel_rfl) rfl rfl ⟨(blk_cell BK302.out 0).trans rfl, (blk_cell BK302.out 1).trans rfl⟩ (fun hHeld => ?_); refine with_tabW gangwaylaw02_AddrsHalves.tab4 gangwaylaw02_AddrsHalves.bits4 (fun HT_ HW_ => ?_)
             generalize w77.drew = w78 at BK302 BK305 HB hHeld ⊢
             refine pu_139 (i := 0) (N := some 24) (ba 13 1) ?_
             refine pu_139 (i := 2) (N := some 26) (ba 13 5) ?_
             refine pu_139 (i := 7) (N := some 31) (ba 13 133) ?_
             refine tk_ca0 (i := 1) (N := some 25) (ba 13 135) hHeld ?_
             refine tk_ca0 (i := 3) (N := some 27) (ba 13 143) hHeld ?_
             refine pu_139 (i := 4) (N := some 28) (ba 13 159) ?_
             refine pu_139 (i := 5) (N := some 29) (ba 13 191) ?_
             refine pu_139 (i := 6) (N := some 30) (ba 13 255) ?_
             refine tk_ca0 (i := 8) (N := some 32) (ba 13 511) hHeld ?_
             refine pu_139 (i := 9) (N := some 33) (ba 13 1023) ?_
             refine pu_139 (i := 10) (N := some 34) (ba 13 2047) ?_
             refine one_ (i := 11) (N := some 6) (ba 13 4095) rfl rfl (one_of HT_.out (by kernel_rfl)) (by decide) (fun K hK => ?_)
             refine box_step ?hg (N := 6) ?hd (cs := #[.int .u32 0, .int .i64 0]) (t := 34) ?hr ?_; (case hd => rfl); (case hg => rfl); (case hr => first | (go_simp; done) | (go_simp; rfl))
             intro gb306 hg w79 hbox hb
             have BK306 := Aside0.mk (hbox)
             have GE306 := Aside0.mk ((by rw [hg]; exact (below_size (by repeat (first | (with_reducible first | exact HB.out | apply below_alloc | apply pw_below_drewN | apply below_drew1 | refine below_set ?_ GE302.out | refine below_set ?_ GE305.out) | exact HB.out))) : w.heap.size ≤ gb306))
             have NB302_306 := Aside0.mk ((by rw [hg]; exact Nat.ne_of_lt (blk_lt (g := gb302) (o := .cells #[.int .u32 a0_0, .int .i64 a0_1] 34 (0, 0)) (by (with_reducible repeat (first | refine blk_drewN ?_ _ | refine blk_drew ?_ | refine blk_alloc ?_ _)); exact BK302.out)) : gb302 ≠ gb306))
             have NB306_302 := Aside0.mk ((by rw [hg]; exact Nat.ne_of_gt (blk_lt (g := gb302) (o := .cells #[.int .u32 a0_0, .int .i64 a0_1] 34 (0, 0)) (by (with_reducible repeat (first | refine blk_drewN ?_ _ | refine blk_drew ?_ | refine blk_alloc ?_ _)); exact BK302.out)) : gb306 ≠ gb302))
             have NB305_306 := Aside0.mk ((by rw [hg]; exact Nat.ne_of_lt (blk_lt (g := gb305) (o := .cells #[.int .u32 a0_0, .int .i64 (wrap64 (a0_1 + 1))] 34 (0, 0)) (by (with_reducible repeat (first | refine blk_drewN ?_ _ | refine blk_drew ?_ | refine blk_alloc ?_ _)); exact BK305.out)) : gb305 ≠ gb306))
             have NB306_305 := Aside0.mk ((by rw [hg]; exact Nat.ne_of_gt (blk_lt (g := gb305) (o := .cells #[.int .u32 a0_0, .int .i64 (wrap64 (a0_1 + 1))] 34 (0, 0)) (by (with_reducible repeat (first | refine blk_drewN ?_ _ | refine blk_drew ?_ | refine blk_alloc ?_ _)); exact BK305.out)) : gb306 ≠ gb305))
             replace BK302 := Aside0.mk (blk_below (g := gb302) (o := .cells #[.int .u32 a0_0, .int .i64 a0_1] 34 (0, 0)) (by (with_reducible repeat (first | refine blk_drewN ?_ _ | refine blk_drew ?_ | refine blk_alloc ?_ _)); exact BK302.out) hb)
             replace BK305 := Aside0.mk (blk_below (g := gb305) (o := .cells #[.int .u32 a0_0, .int .i64 (wrap64 (a0_1 + 1))] 34 (0, 0)) (by (with_reducible repeat (first | refine blk_drewN ?_ _ | refine blk_drew ?_ | refine blk_alloc ?_ _)); exact BK305.out) hb)
             replace HB := Aside0.mk (below_step (by repeat (first | (with_reducible first | exact HB.out | apply below_alloc | apply pw_below_drewN | apply below_drew1 | refine below_set ?_ GE302.out | refine below_set ?_ GE305.out) | exact HB.out)) hb)
             clear hb hbox hg
             refine hK.out _ _ (by exact ⟨(blk_cell BK302.out 0).trans rfl, (blk_cell BK302.out 1).trans rfl⟩) (fun hHeld => ?_)
             clear hK K
             refine norm_ (a' := ?_) ?_ ?_
             rotate_left
             ·exact z33_12
             refine one_ (i := 12) (N := none) (ba 13 8191) rfl rfl (one_of HT_.out (by kernel_rfl)) (by decide) (fun K hK => ?_)
             have hs80 : w79.cell? ⟨gb306, 0, none⟩ = some (.int .u32 0) := (blk_cell BK306.out 0).trans rfl
             have hfs80 := blk_frozen BK306.out 0
             have hns80_0 := NB302_306.out
             have hns80_1 := NB305_306.out
             have hms80_0 := NB306_302.out
             have hms80_1 := NB306_305.out
             have hs81 : w79.cell? ⟨gb306, 1, none⟩ = some (.int .i64 0) := (blk_cell BK306.out 1).trans rfl
             have hfs81 := blk_frozen BK306.out 1
             have hns81_0 := NB302_306.out
             have hns81_1 := NB305_306.out
             have hms81_0 := NB306_302.out
             have hms81_1 := NB306_305.out
             refine skip_ (w1 := ?_) (by rfl) rfl ?_ ?_
             rotate_left
             ·go_simp
              rfl
             refine hK.out _ _ (by exact ⟨((cell_far (p := ⟨gb306, _, none⟩) NB302_306.out _).trans (((cell_far (p := ⟨gb306, _, none⟩) NB302_306.out _).trans (hHeld.1)))), ((cell_far (p := ⟨gb306, _, none⟩) NB302_306.out _).trans (((cell_far (p := ⟨gb306, _, none⟩) NB302_306.out _).trans (hHeld.2))))⟩) (fun hHeld => ?_)
             clear hK K
             refine done_ (done_of HT_.out (by kernel_rfl)) ?_
             try go_wp2
             have n0_ : Aside0 (((w79.setCell ⟨gb306, 0, none⟩ (.int .u32 (Go.bits .or .u32 a0_0 (ji17)))).setCell ⟨gb306, 1, none⟩ (.int .i64 (wrap64 (a0_1 + 1)))).heap[gb302]? = some (.cells #[.int .u32 a0_0, .int .i64 a0_1] 34 (0, 0))) := ⟨(by (with_reducible repeat (first | refine blk_drewN ?_ _ | refine blk_drew ?_ | refine blk_alloc ?_ _ | refine blk_far ?_ NB302_306.out _)); exact BK302.out)⟩
             have n1_ : Aside0 (((w79.setCell ⟨gb306, 0, none⟩ (.int .u32 (Go.bits .or .u32 a0_0 (ji17)))).setCell ⟨gb306, 1, none⟩ (.int .i64 (wrap64 (a0_1 + 1)))).heap[gb305]? = some (.cells #[.int .u32 a0_0, .int .i64 (wrap64 (a0_1 + 1))] 34 (0, 0))) := ⟨(by (with_reducible repeat (first | refine blk_drewN ?_ _ | refine blk_drew ?_ | refine blk_alloc ?_ _ | refine blk_far ?_ NB305_306.out _)); exact BK305.out)⟩
             have n2_ : Aside0 (((w79.setCell ⟨gb306, 0, none⟩ (.int .u32 (Go.bits .or .u32 a0_0 (ji17)))).setCell ⟨gb306, 1, none⟩ (.int .i64 (wrap64 (a0_1 + 1)))).heap[gb306]? = some (.cells #[.int .u32 (Go.bits .or .u32 a0_0 (ji17)), .int .i64 (wrap64 (a0_1 + 1))] 34 (0, 0))) := ⟨(by (with_reducible repeat (first | refine blk_drewN ?_ _ | refine blk_drew ?_ | refine blk_alloc ?_ _)); refine blk_put (cs := #[.int .u32 (Go.bits .or .u32 a0_0 (ji17)), .int .i64 0]) ?_ 1 _ rfl; (with_reducible repeat (first | refine blk_drewN ?_ _ | refine blk_drew ?_ | refine blk_alloc ?_ _)); refine blk_put (cs := #[.int .u32 0, .int .i64 0]) ?_ 0 _ rfl; (with_reducible repeat (first | refine blk_drewN ?_ _ | refine blk_drew ?_ | refine blk_alloc ?_ _)); exact BK306.out)⟩
             have n3_ : Aside0 (Below w.heap.size w ((w79.setCell ⟨gb306, 0, none⟩ (.int .u32 (Go.bits .or .u32 a0_0 (ji17)))).setCell ⟨gb306, 1, none⟩ (.int .i64 (wrap64 (a0_1 + 1))))) := ⟨(by repeat (first | (with_reducible first | exact HB.out | apply below_alloc | apply pw_below_drewN | apply below_drew1 | refine below_set ?_ GE302.out | refine below_set ?_ GE305.out | refine below_set ?_ GE306.out) | exact HB.out))⟩
             (try clear BK302)
             (try clear BK305)
             (try clear BK306)
             (try clear HB)
             generalize ((w79.setCell ⟨gb306, 0, none⟩ (.int .u32 (Go.bits .or .u32 a0_0 (ji17)))).setCell ⟨gb306, 1, none⟩ (.int .i64 (wrap64 (a0_1 + 1)))) = w82 at n0_ n1_ n2_ n3_ ⊢
             have BK302 := n0_
             have BK305 := n1_
             have BK306 := n2_
             have HB := n3_
             clear n0_ n1_ n2_ n3_
             replace BK302 := Aside0.mk (blk_drew BK302.out)
             replace BK305 := Aside0.mk (blk_drew BK305.out)
             replace BK306 := Aside0.mk (blk_drew BK306.out)
             replace HB := Aside0.mk (below_drew1 HB.out)
             refine start_ (n := 8) (S := fun w' => w'.cell? ⟨gb305, 0, none⟩ = some (.int .u32 a0_0) ∧ w'.cell? ⟨gb305, 1, none⟩ = some (.int .i64 (wrap64 (a0_1 + 1))) ∧ w'.cell? ⟨gb306, 0, none⟩ = some (.int .u32 (Go.bits .or .u32 a0_0 (ji17))) ∧ w'.cell? ⟨gb306, 1, none⟩ = some (.int .i64 (wrap64 (a0_1 + 1)))) (ds := []) (ba 8 0) (by kernel_rfl) rfl rfl ⟨(blk_cell BK305.out 0).trans rfl, (blk_cell BK305.out 1).trans rfl, (blk_cell BK306.out 0).trans rfl, (blk_cell BK306.out 1).trans rfl⟩ (fun hHeld => ?_); refine with_tabW gangwaylaw02_AddrsHalves.tab5 gangwaylaw02_AddrsHalves.bits5 (fun HT_ HW_ => ?_)
             generalize w82.drew = w83 at BK302 BK305 BK306 HB hHeld ⊢
             refine pu_139 (i := 1) (N := some 36) (ba 8 2) ?_
             refine pu_139 (i := 4) (N := some 39) (ba 8 18) ?_
             refine tk_15c (i := 0) (N := some 35) (ba 8 19) hHeld ?_
             refine tk_15c (i := 3) (N := some 38) (ba 8 27) hHeld ?_
             refine one_ (i := 2) (N := some 37) (ba 8 31) rfl rfl (one_of HT_.out (by kernel_rfl)) (by decide) (fun K hK => ?_)
             refine goes_ Tryz.func24 (by kernel_rfl) rfl #[.agg #[.int .u32 a0_0, .int .i64 (wrap64 (a0_1 + 1))], .int .u32 a1] (by first | rfl | exact wanted_on rfl rfl rfl (by first | rfl | (simp [*]; done) | (simp [*, IntKind.wrap_u32]; done))) rfl rfl (by (try simp only [List.map_toArray, List.map_cons, List.map_nil]); first | done | rfl | (simp only [List.length_drop, List.length_take]; rfl)) ?_
             with_reducible refine (addrs_In.calls kj2 a0_0 (wrap64 (a0_1 + 1)) a1 false _ A18.out).mono ?_
             rintro e w84 ⟨rfl, hb⟩
             refine ⟨_, rfl, ?_⟩
             replace BK302 := Aside0.mk (blk_below (g := gb302) (o := .cells #[.int .u32 a0_0, .int .i64 a0_1] 34 (0, 0)) (by (with_reducible repeat (first | refine blk_drewN ?_ _ | refine blk_drew ?_ | refine blk_alloc ?_ _)); exact BK302.out) hb)
             replace BK305 := Aside0.mk (blk_below (g := gb305) (o := .cells #[.int .u32 a0_0, .int .i64 (wrap64 (a0_1 + 1))] 34 (0, 0)) (by (with_reducible repeat (first | refine blk_drewN ?_ _ | refine blk_drew ?_ | refine blk_alloc ?_ _)); exact BK305.out) hb)
             replace BK306 := Aside0.mk (blk_below (g := gb306) (o := .cells #[.int .u32 (Go.bits .or .u32 a0_0 (ji17)), .int .i64 (wrap64 (a0_1 + 1))] 34 (0, 0)) (by (with_reducible repeat (first | refine blk_drewN ?_ _ | refine blk_drew ?_ | refine blk_alloc ?_ _)); exact BK306.out) hb)
             replace HB := Aside0.mk (below_step (by repeat (first | (with_reducible first | exact HB.out | apply below_alloc | apply pw_below_drewN | apply below_drew1 | refine below_set ?_ GE302.out | refine below_set ?_ GE305.out | refine below_set ?_ GE306.out) | exact HB.out)) hb)
             (try clear hb)
             (try clear hb2)
             (try clear hk)
             (try clear hi)
             refine hK.out _ _ (by exact ⟨(blk_cell BK305.out 0).trans rfl, (blk_cell BK305.out 1).trans rfl, (blk_cell BK306.out 0).trans rfl, (blk_cell BK306.out 1).trans rfl⟩) (fun hHeld => ?_)
             clear hK K
             refine norm_ (a' := ?_) ?_ ?_
             rotate_left
             ·exact z33_1
             refine one_ (i := 5) (N := some 40) (ba 8 63) rfl rfl (one_of HT_.out (by kernel_rfl)) (by decide) (fun K hK => ?_)
             refine goes_ Tryz.func24 (by kernel_rfl) rfl #[.agg #[.int .u32 (Go.bits .or .u32 a0_0 (ji17)), .int .i64 (wrap64 (a0_1 + 1))], .int .u32 a1] (by first | rfl | exact wanted_on rfl rfl rfl (by first | rfl | (simp [*]; done) | (simp [*, IntKind.wrap_u32]; done))) rfl rfl (by (try simp only [List.map_toArray, List.map_cons, List.map_nil]); first | done | (simp only [hji17]; rfl) | rfl | (simp only [List.length_drop, List.length_take]; rfl)) ?_
             with_reducible refine (addrs_In.calls kj2 (Go.bits .or .u32 a0_0 (ji17)) (wrap64 (a0_1 + 1)) a1 t308 _ A19.out).mono ?_
             rintro e w85 ⟨rfl, hb⟩
             refine ⟨_, rfl, ?_⟩
             replace BK302 := Aside0.mk (blk_below (g := gb302) (o := .cells #[.int .u32 a0_0, .int .i64 a0_1] 34 (0, 0)) (by (with_reducible repeat (first | refine blk_drewN ?_ _ | refine blk_drew ?_ | refine blk_alloc ?_ _)); exact BK302.out) hb)
             replace BK305 := Aside0.mk (blk_below (g := gb305) (o := .cells #[.int .u32 a0_0, .int .i64 (wrap64 (a0_1 + 1))] 34 (0, 0)) (by (with_reducible repeat (first | refine blk_drewN ?_ _ | refine blk_drew ?_ | refine blk_alloc ?_ _)); exact BK305.out) hb)
             replace BK306 := Aside0.mk (blk_below (g := gb306) (o := .cells #[.int .u32 (Go.bits .or .u32 a0_0 (ji17)), .int .i64 (wrap64 (a0_1 + 1))] 34 (0, 0)) (by (with_reducible repeat (first | refine blk_drewN ?_ _ | refine blk_drew ?_ | refine blk_alloc ?_ _)); exact BK306.out) hb)
             replace HB := Aside0.mk (below_step (by repeat (first | (with_reducible first | exact HB.out | apply below_alloc | apply pw_below_drewN | apply below_drew1 | refine below_set ?_ GE302.out | refine below_set ?_ GE305.out | refine below_set ?_ GE306.out) | exact HB.out)) hb)
             (try clear hb)
             (try clear hb2)
             (try clear hk)
             (try clear hi)
             refine hK.out _ _ (by exact ⟨(blk_cell BK305.out 0).trans rfl, (blk_cell BK305.out 1).trans rfl, (blk_cell BK306.out 0).trans rfl, (blk_cell BK306.out 1).trans rfl⟩) (fun hHeld => ?_)
             clear hK K
             refine norm_ (a' := ?_) ?_ ?_
             rotate_left
             ·exact z33_2
             refine pu_139 (i := 6) (N := some 7) (ba 8 127) ?_
             refine pu_139 (i := 7) (N := some 8) (ba 8 255) ?_
             refine done_ (done_of HT_.out (by kernel_rfl)) ?_
             try go_wp2
             replace BK302 := Aside0.mk (blk_drew BK302.out)
             replace BK305 := Aside0.mk (blk_drew BK305.out)
             replace BK306 := Aside0.mk (blk_drew BK306.out)
             replace HB := Aside0.mk (below_drew1 HB.out)
             refine start_ (n := 53) (S := fun w' => w'.cell? ⟨gb305, 0, none⟩ = some (.int .u32 a0_0) ∧ w'.cell? ⟨gb305, 1, none⟩ = some (.int .i64 (wrap64 (a0_1 + 1))) ∧ w'.cell? ⟨gb306, 0, none⟩ = some (.int .u32 (Go.bits .or .u32 a0_0 (ji17))) ∧ w'.cell? ⟨gb306, 1, none⟩ = some (.int .i64 (wrap64 (a0_1 + 1))) ∧ w'.cell? ⟨gb302, 0, none⟩ = some (.int .u32 a0_0) ∧ w'.cell? ⟨gb302, 1, none⟩ = some (.int .i64 a0_1)) (ds := []) (ba 53 0) (by kernel_rfl) rfl rfl ⟨(blk_cell BK305.out 0).trans rfl, (blk_cell BK305.out 1).trans rfl, (blk_cell BK306.out 0).trans rfl, (blk_cell BK306.out 1).trans rfl, (blk_cell BK302.out 0).trans rfl, (blk_cell BK302.out 1).trans rfl⟩ (fun hHeld => ?_); refine with_tabW gangwaylaw02_AddrsHalves.tab6 gangwaylaw02_AddrsHalves.bits6 (fun HT_ HW_ => ?_)
             generalize w85.drew = w86 at BK302 BK305 BK306 HB hHeld ⊢
             refine tk_bae (i := 0) (N := some 41) (ba 53 1) hHeld ?_
             refine one_ (i := 1) (N := some 42) (ba 53 3) rfl rfl (one_of HT_.out (by kernel_rfl)) (by decide) (fun K hK => ?_)
             refine goes_ Tryz.func22 (by kernel_rfl) rfl #[.agg #[.int .u32 a0_0, .int .i64 (wrap64 (a0_1 + 1))]] (by first | rfl | exact wanted_on rfl rfl rfl (by first | rfl | (simp [*]; done) | (simp [*, IntKind.wrap_u32]; done))) rfl rfl (by (try simp only [List.map_toArray, List.map_cons, List.map_nil]); first | done | rfl | (simp only [List.length_drop, List.length_take]; rfl)) ?_
             with_reducible refine (addrs_Net.calls kj2 a0_0 (wrap64 (a0_1 + 1)) true _ A20.out).mono ?_
             rintro e w87 ⟨rfl, hb⟩
             refine ⟨_, rfl, ?_⟩
             replace BK302 := Aside0.mk (blk_below (g := gb302) (o := .cells #[.int .u32 a0_0, .int .i64 a0_1] 34 (0, 0)) (by (with_reducible repeat (first | refine blk_drewN ?_ _ | refine blk_drew ?_ | refine blk_alloc ?_ _)); exact BK302.out) hb)
             replace BK305 := Aside0.mk (blk_below (g := gb305) (o := .cells #[.int .u32 a0_0, .int .i64 (wrap64 (a0_1 + 1))] 34 (0, 0)) (by (with_reducible repeat (first | refine blk_drewN ?_ _ | refine blk_drew ?_ | refine blk_alloc ?_ _)); exact BK305.out) hb)
             replace BK306 := Aside0.mk (blk_below (g := gb306) (o := .cells #[.int .u32 (Go.bits .or .u32 a0_0 (ji17)), .int .i64 (wrap64 (a0_1 + 1))] 34 (0, 0)) (by (with_reducible repeat (first | refine blk_drewN ?_ _ | refine blk_drew ?_ | refine blk_alloc ?_ _)); exact BK306.out) hb)
             replace HB := Aside0.mk (below_step (by repeat (first | (with_reducible first | exact HB.out | apply below_alloc | apply pw_below_drewN | apply below_drew1 | refine below_set ?_ GE302.out | refine below_set ?_ GE305.out | refine below_set ?_ GE306.out) | exact HB.out)) hb)
             (try clear hb)
             (try clear hb2)
             (try clear hk)
             (try clear hi)
             refine hK.out _ _ (by exact ⟨(blk_cell BK305.out 0).trans rfl, (blk_cell BK305.out 1).trans rfl, (blk_cell BK306.out 0).trans rfl, (blk_cell BK306.out 1).trans rfl, (blk_cell BK302.out 0).trans rfl, (blk_cell BK302.out 1).trans rfl⟩) (fun hHeld => ?_)
             clear hK K
             refine norm_ (a' := ?_) ?_ ?_
             rotate_left
             ·exact z33_3
             refine pu_139 (i := 2) (N := some 43) (ba 53 7) ?_
             refine tk_bae (i := 3) (N := some 44) (ba 53 15) hHeld ?_
             refine one_ (i := 4) (N := some 45) (ba 53 31) rfl rfl (one_of HT_.out (by kernel_rfl)) (by decide) (fun K hK => ?_)
             refine goes_ Tryz.func22 (by kernel_rfl) rfl #[.agg #[.int .u32 (Go.bits .or .u32 a0_0 (ji17)), .int .i64 (wrap64 (a0_1 + 1))]] (by first | rfl | exact wanted_on rfl rfl rfl (by first | rfl | (simp [*]; done) | (simp [*, IntKind.wrap_u32]; done))) rfl rfl (by (try simp only [List.map_toArray, List.map_cons, List.map_nil]); first | done | (simp only [hji17]; rfl) | rfl | (simp only [List.length_drop, List.length_take]; rfl)) ?_
             with_reducible refine (addrs_Net.calls kj2 (Go.bits .or .u32 a0_0 (ji17)) (wrap64 (a0_1 + 1)) true _ A22.out).mono ?_
             rintro e w88 ⟨rfl, hb⟩
             refine ⟨_, rfl, ?_⟩
             replace BK302 := Aside0.mk (blk_below (g := gb302) (o := .cells #[.int .u32 a0_0, .int .i64 a0_1] 34 (0, 0)) (by (with_reducible repeat (first | refine blk_drewN ?_ _ | refine blk_drew ?_ | refine blk_alloc ?_ _)); exact BK302.out) hb)
             replace BK305 := Aside0.mk (blk_below (g := gb305) (o := .cells #[.int .u32 a0_0, .int .i64 (wrap64 (a0_1 + 1))] 34 (0, 0)) (by (with_reducible repeat (first | refine blk_drewN ?_ _ | refine blk_drew ?_ | refine blk_alloc ?_ _)); exact BK305.out) hb)
             replace BK306 := Aside0.mk (blk_below (g := gb306) (o := .cells #[.int .u32 (Go.bits .or .u32 a0_0 (ji17)), .int .i64 (wrap64 (a0_1 + 1))] 34 (0, 0)) (by (with_reducible repeat (first | refine blk_drewN ?_ _ | refine blk_drew ?_ | refine blk_alloc ?_ _)); exact BK306.out) hb)
             replace HB := Aside0.mk (below_step (by repeat (first | (with_reducible first | exact HB.out | apply below_alloc | apply pw_below_drewN | apply below_drew1 | refine below_set ?_ GE302.out | refine below_set ?_ GE305.out | refine below_set ?_ GE306.out) | exact HB.out)) hb)
             (try clear hb)
             (try clear hb2)
             (try clear hk)
             (try clear hi)
             refine hK.out _ _ (by exact ⟨(blk_cell BK305.out 0).trans rfl, (blk_cell BK305.out 1).trans rfl, (blk_cell BK306.out 0).trans rfl, (blk_cell BK306.out 1).trans rfl, (blk_cell BK302.out 0).trans rfl, (blk_cell BK302.out 1).trans rfl⟩) (fun hHeld => ?_)
             clear hK K
             refine norm_ (a' := ?_) ?_ ?_
             rotate_left
             ·exact z33_4
             refine pu_139 (i := 5) (N := some 46) (ba 53 63) ?_
             refine pu_139 (i := 6) (N := some 47) (ba 53 127) ?_
             refine pu_139 (i := 7) (N := some 48) (ba 53 255) ?_
             refine pu_139 (i := 8) (N := some 49) (ba 53 511) ?_
             refine pure_ (i := 9) (N := some 50) (v := undef) (a' := ?_) (ba 53 1023) rfl rfl (any_of HT_.out (by kernel_rfl)) (fun _ _ _ h => h) (Or.inr ⟨(by first | rfl | exact wanted_off rfl rfl rfl (by first | rfl | (simp [*]; done) | (simp [*, IntKind.wrap_u32]; done) | (simp_all [IntKind.wrap_u32]; done))), rfl⟩) ?_ ?_
             rotate_left
             ·simp only [Act.put, List.setIfInBounds_toArray, List.set_cons_zero, List.set_cons_succ, i64_w, i32_w]
              rfl
             refine pu_139 (i := 10) (N := some 51) (ba 53 2047) ?_
             refine pu_139 (i := 11) (N := some 52) (ba 53 4095) ?_
             refine pu_139 (i := 12) (N := some 53) (ba 53 8191) ?_
             refine pu_139 (i := 13) (N := some 54) (ba 53 16383) ?_
             refine pu_139 (i := 15) (N := some 56) (ba 53 49151) ?_
             refine pu_139 (i := 17) (N := some 58) (ba 53 180223) ?_
             refine tk_bae (i := 14) (N := some 55) (ba 53 196607) hHeld ?_
             refine one_ (i := 16) (N := some 57) (ba 53 262143) rfl rfl (one_of HT_.out (by kernel_rfl)) (by decide) (fun K hK => ?_)
             refine goes_ Tryz.func24 (by kernel_rfl) rfl #[.agg #[.int .u32 a0_0, .int .i64 a0_1], .int .u32 a1] (by first | rfl | exact wanted_on rfl rfl rfl (by first | rfl | (simp [*]; done) | (simp [*, IntKind.wrap_u32]; done))) rfl rfl (by (try simp only [List.map_toArray, List.map_cons, List.map_nil]); first | done | rfl | (simp only [List.length_drop, List.length_take]; rfl)) ?_
             with_reducible refine (addrs_In.calls kj2 a0_0 a0_1 a1 t318 _ A61.out).mono ?_
             rintro e w89 ⟨rfl, hb⟩
             refine ⟨_, rfl, ?_⟩
             replace BK302 := Aside0.mk (blk_below (g := gb302) (o := .cells #[.int .u32 a0_0, .int .i64 a0_1] 34 (0, 0)) (by (with_reducible repeat (first | refine blk_drewN ?_ _ | refine blk_drew ?_ | refine blk_alloc ?_ _)); exact BK302.out) hb)
             replace BK305 := Aside0.mk (blk_below (g := gb305) (o := .cells #[.int .u32 a0_0, .int .i64 (wrap64 (a0_1 + 1))] 34 (0, 0)) (by (with_reducible repeat (first | refine blk_drewN ?_ _ | refine blk_drew ?_ | refine blk_alloc ?_ _)); exact BK305.out) hb)
             replace BK306 := Aside0.mk (blk_below (g := gb306) (o := .cells #[.int .u32 (Go.bits .or .u32 a0_0 (ji17)), .int .i64 (wrap64 (a0_1 + 1))] 34 (0, 0)) (by (with_reducible repeat (first | refine blk_drewN ?_ _ | refine blk_drew ?_ | refine blk_alloc ?_ _)); exact BK306.out) hb)
             replace HB := Aside0.mk (below_step (by repeat (first | (with_reducible first | exact HB.out | apply below_alloc | apply pw_below_drewN | apply below_drew1 | refine below_set ?_ GE302.out | refine below_set ?_ GE305.out | refine below_set ?_ GE306.out) | exact HB.out)) hb)
             (try clear hb)
             (try clear hb2)
             (try clear hk)
             (try clear hi)
             refine hK.out _ _ (by exact ⟨(blk_cell BK305.out 0).trans rfl, (blk_cell BK305.out 1).trans rfl, (blk_cell BK306.out 0).trans rfl, (blk_cell BK306.out 1).trans rfl, (blk_cell BK302.out 0).trans rfl, (blk_cell BK302.out 1).trans rfl⟩) (fun hHeld => ?_)
             clear hK K
             refine norm_ (a' := ?_) ?_ ?_
             rotate_left
             ·exact z33_5
             refine pu_139 (i := 18) (N := some 59) (ba 53 524287) ?_
             refine pu_139 (i := 19) (N := some 60) (ba 53 1048575) ?_
             refine pu_139 (i := 20) (N := some 61) (ba 53 2097151) ?_
             refine pu_139 (i := 21) (N := some 62) (ba 53 4194303) ?_
             refine pu_139 (i := 22) (N := some 63) (ba 53 8388607) ?_
             refine pu_139 (i := 23) (N := some 64) (ba 53 16777215) ?_
             refine tk_bae (i := 24) (N := some 65) (ba 53 33554431) hHeld ?_
             refine tk_bae (i := 26) (N := some 67) (ba 53 100663295) hHeld ?_
             refine one_ (i := 25) (N := some 66) (ba 53 134217727) rfl rfl (one_of HT_.out (by kernel_rfl)) (by decide) (fun K hK => ?_)
             refine goes_ Tryz.func26 (by kernel_rfl) rfl #[.agg #[.int .u32 (Go.bits .or .u32 a0_0 (ji17)), .int .i64 (wrap64 (a0_1 + 1))]] (by first | rfl | exact wanted_on rfl rfl rfl (by first | rfl | (simp [*]; done) | (simp [*, IntKind.wrap_u32]; done))) rfl rfl (by (try simp only [List.map_toArray, List.map_cons, List.map_nil]); first | done | (simp only [hji17]; rfl) | rfl | (simp only [List.length_drop, List.length_take]; rfl)) ?_
             with_reducible refine (addrs_Last.calls kj2 (Go.bits .or .u32 a0_0 (ji17)) (wrap64 (a0_1 + 1)) t319 _ A63.out).mono ?_
             rintro e w90 ⟨rfl, hb⟩
             refine ⟨_, rfl, ?_⟩
             replace BK302 := Aside0.mk (blk_below (g := gb302) (o := .cells #[.int .u32 a0_0, .int .i64 a0_1] 34 (0, 0)) (by (with_reducible repeat (first | refine blk_drewN ?_ _ | refine blk_drew ?_ | refine blk_alloc ?_ _)); exact BK302.out) hb)
             replace BK305 := Aside0.mk (blk_below (g := gb305) (o := .cells #[.int .u32 a0_0, .int .i64 (wrap64 (a0_1 + 1))] 34 (0, 0)) (by (with_reducible repeat (first | refine blk_drewN ?_ _ | refine blk_drew ?_ | refine blk_alloc ?_ _)); exact BK305.out) hb)
             replace BK306 := Aside0.mk (blk_below (g := gb306) (o := .cells #[.int .u32 (Go.bits .or .u32 a0_0 (ji17)), .int .i64 (wrap64 (a0_1 + 1))] 34 (0, 0)) (by (with_reducible repeat (first | refine blk_drewN ?_ _ | refine blk_drew ?_ | refine blk_alloc ?_ _)); exact BK306.out) hb)
             replace HB := Aside0.mk (below_step (by repeat (first | (with_reducible first | exact HB.out | apply below_alloc | apply pw_below_drewN | apply below_drew1 | refine below_set ?_ GE302.out | refine below_set ?_ GE305.out | refine below_set ?_ GE306.out) | exact HB.out)) hb)
             (try clear hb)
             (try clear hb2)
             (try clear hk)
             (try clear hi)
             refine hK.out _ _ (by exact ⟨(blk_cell BK305.out 0).trans rfl, (blk_cell BK305.out 1).trans rfl, (blk_cell BK306.out 0).trans rfl, (blk_cell BK306.out 1).trans rfl, (blk_cell BK302.out 0).trans rfl, (blk_cell BK302.out 1).trans rfl⟩) (fun hHeld => ?_)
             clear hK K
             refine norm_ (a' := ?_) ?_ ?_
             rotate_left
             ·exact z33_6
             refine one_ (i := 27) (N := some 68) (ba 53 268435455) rfl rfl (one_of HT_.out (by kernel_rfl)) (by decide) (fun K hK => ?_)
             refine goes_ Tryz.func26 (by kernel_rfl) rfl #[.agg #[.int .u32 a0_0, .int .i64 a0_1]] (by first | rfl | exact wanted_on rfl rfl rfl (by first | rfl | (simp [*]; done) | (simp [*, IntKind.wrap_u32]; done))) rfl rfl (by (try simp only [List.map_toArray, List.map_cons, List.map_nil]); first | done | rfl | (simp only [List.length_drop, List.length_take]; rfl)) ?_
             with_reducible refine (addrs_Last.calls kj2 a0_0 a0_1 t320 _ A64.out).mono ?_
             rintro e w91 ⟨rfl, hb⟩
             refine ⟨_, rfl, ?_⟩
             replace BK302 := Aside0.mk (blk_below (g := gb302) (o := .cells #[.int .u32 a0_0, .int .i64 a0_1] 34 (0, 0)) (by (with_reducible repeat (first | refine blk_drewN ?_ _ | refine blk_drew ?_ | refine blk_alloc ?_ _)); exact BK302.out) hb)
             replace BK305 := Aside0.mk (blk_below (g := gb305) (o := .cells #[.int .u32 a0_0, .int .i64 (wrap64 (a0_1 + 1))] 34 (0, 0)) (by (with_reducible repeat (first | refine blk_drewN ?_ _ | refine blk_drew ?_ | refine blk_alloc ?_ _)); exact BK305.out) hb)
             replace BK306 := Aside0.mk (blk_below (g := gb306) (o := .cells #[.int .u32 (Go.bits .or .u32 a0_0 (ji17)), .int .i64 (wrap64 (a0_1 + 1))] 34 (0, 0)) (by (with_reducible repeat (first | refine blk_drewN ?_ _ | refine blk_drew ?_ | refine blk_alloc ?_ _)); exact BK306.out) hb)
             replace HB := Aside0.mk (below_step (by repeat (first | (with_reducible first | exact HB.out | apply below_alloc | apply pw_below_drewN | apply below_drew1 | refine below_set ?_ GE302.out | refine below_set ?_ GE305.out | refine below_set ?_ GE306.out) | exact HB.out)) hb)
             (try clear hb)
             (try clear hb2)
             (try clear hk)
             (try clear hi)
             refine hK.out _ _ (by exact ⟨(blk_cell BK305.out 0).trans rfl, (blk_cell BK305.out 1).trans rfl, (blk_cell BK306.out 0).trans rfl, (blk_cell BK306.out 1).trans rfl, (blk_cell BK302.out 0).trans rfl, (blk_cell BK302.out 1).trans rfl⟩) (fun hHeld => ?_)
             clear hK K
             refine norm_ (a' := ?_) ?_ ?_
             rotate_left
             ·exact z33_7
             refine pu_139 (i := 28) (N := some 69) (ba 53 536870911) ?_
             refine pu_139 (i := 29) (N := some 70) (ba 53 1073741823) ?_
             refine pu_139 (i := 30) (N := some 71) (ba 53 2147483647) ?_
             refine pu_139 (i := 34) (N := some 75) (ba 53 19327352831) ?_
             refine tk_bae (i := 31) (N := some 72) (ba 53 21474836479) hHeld ?_
             refine tk_bae (i := 35) (N := some 76) (ba 53 55834574847) hHeld ?_
             refine one_ (i := 32) (N := some 73) (ba 53 60129542143) rfl rfl (one_of HT_.out (by kernel_rfl)) (by decide) (fun K hK => ?_)
             refine goes_ Tryz.func26 (by kernel_rfl) rfl #[.agg #[.int .u32 a0_0, .int .i64 (wrap64 (a0_1 + 1))]] (by first | rfl | exact wanted_on rfl rfl rfl (by first | rfl | (simp [*]; done) | (simp [*, IntKind.wrap_u32]; done))) rfl rfl (by (try simp only [List.map_toArray, List.map_cons, List.map_nil]); first | done | rfl | (simp only [List.length_drop, List.length_take]; rfl)) ?_
             with_reducible refine (addrs_Last.calls kj2 a0_0 (wrap64 (a0_1 + 1)) t321 _ A66.out).mono ?_
             rintro e w92 ⟨rfl, hb⟩
             refine ⟨_, rfl, ?_⟩
             replace BK302 := Aside0.mk (blk_below (g := gb302) (o := .cells #[.int .u32 a0_0, .int .i64 a0_1] 34 (0, 0)) (by (with_reducible repeat (first | refine blk_drewN ?_ _ | refine blk_drew ?_ | refine blk_alloc ?_ _)); exact BK302.out) hb)
             replace BK305 := Aside0.mk (blk_below (g := gb305) (o := .cells #[.int .u32 a0_0, .int .i64 (wrap64 (a0_1 + 1))] 34 (0, 0)) (by (with_reducible repeat (first | refine blk_drewN ?_ _ | refine blk_drew ?_ | refine blk_alloc ?_ _)); exact BK305.out) hb)
             replace BK306 := Aside0.mk (blk_below (g := gb306) (o := .cells #[.int .u32 (Go.bits .or .u32 a0_0 (ji17)), .int .i64 (wrap64 (a0_1 + 1))] 34 (0, 0)) (by (with_reducible repeat (first | refine blk_drewN ?_ _ | refine blk_drew ?_ | refine blk_alloc ?_ _)); exact BK306.out) hb)
             replace HB := Aside0.mk (below_step (by repeat (first | (with_reducible first | exact HB.out | apply below_alloc | apply pw_below_drewN | apply below_drew1 | refine below_set ?_ GE302.out | refine below_set ?_ GE305.out | refine below_set ?_ GE306.out) | exact HB.out)) hb)
             (try clear hb)
             (try clear hb2)
             (try clear hk)
             (try clear hi)
             refine hK.out _ _ (by exact ⟨(blk_cell BK305.out 0).trans rfl, (blk_cell BK305.out 1).trans rfl, (blk_cell BK306.out 0).trans rfl, (blk_cell BK306.out 1).trans rfl, (blk_cell BK302.out 0).trans rfl, (blk_cell BK302.out 1).trans rfl⟩) (fun hHeld => ?_)
             clear hK K
             refine norm_ (a' := ?_) ?_ ?_
             rotate_left
             ·exact z33_8
             refine pu_139 (i := 33) (N := some 74) (ba 53 68719476735) ?_
             refine pu_139 (i := 36) (N := some 77) (ba 53 137438953471) ?_
             refine pu_139 (i := 37) (N := some 78) (ba 53 274877906943) ?_
             refine pu_139 (i := 38) (N := some 79) (ba 53 549755813887) ?_
             refine tk_bae (i := 39) (N := some 80) (ba 53 1099511627775) hHeld ?_
             refine tk_bae (i := 40) (N := some 81) (ba 53 2199023255551) hHeld ?_
             refine one_ (i := 41) (N := some 82) (ba 53 4398046511103) rfl rfl (one_of HT_.out (by kernel_rfl)) (by decide) (fun K hK => ?_)
             refine goes_ Tryz.func28 (by kernel_rfl) rfl #[.agg #[.int .u32 a0_0, .int .i64 (wrap64 (a0_1 + 1))], .agg #[.int .u32 a0_0, .int .i64 a0_1]] (by first | rfl | exact wanted_on rfl rfl rfl (by first | rfl | (simp [*]; done) | (simp [*, IntKind.wrap_u32]; done))) rfl rfl (by (try simp only [List.map_toArray, List.map_cons, List.map_nil]); first | done | rfl | (simp only [List.length_drop, List.length_take]; rfl)) ?_
             with_reducible refine (addrs_Near.calls kj2 a0_0 (wrap64 (a0_1 + 1)) a0_0 a0_1 true _ A68.out).mono ?_
             rintro e w93 ⟨rfl, hb⟩
             refine ⟨_, rfl, ?_⟩
             replace BK302 := Aside0.mk (blk_below (g := gb302) (o := .cells #[.int .u32 a0_0, .int .i64 a0_1] 34 (0, 0)) (by (with_reducible repeat (first | refine blk_drewN ?_ _ | refine blk_drew ?_ | refine blk_alloc ?_ _)); exact BK302.out) hb)
             replace BK305 := Aside0.mk (blk_below (g := gb305) (o := .cells #[.int .u32 a0_0, .int .i64 (wrap64 (a0_1 + 1))] 34 (0, 0)) (by (with_reducible repeat (first | refine blk_drewN ?_ _ | refine blk_drew ?_ | refine blk_alloc ?_ _)); exact BK305.out) hb)
             replace BK306 := Aside0.mk (blk_below (g := gb306) (o := .cells #[.int .u32 (Go.bits .or .u32 a0_0 (ji17)), .int .i64 (wrap64 (a0_1 + 1))] 34 (0, 0)) (by (with_reducible repeat (first | refine blk_drewN ?_ _ | refine blk_drew ?_ | refine blk_alloc ?_ _)); exact BK306.out) hb)
             replace HB := Aside0.mk (below_step (by repeat (first | (with_reducible first | exact HB.out | apply below_alloc | apply pw_below_drewN | apply below_drew1 | refine below_set ?_ GE302.out | refine below_set ?_ GE305.out | refine below_set ?_ GE306.out) | exact HB.out)) hb)
             (try clear hb)
             (try clear hb2)
             (try clear hk)
             (try clear hi)
             refine hK.out _ _ (by exact ⟨(blk_cell BK305.out 0).trans rfl, (blk_cell BK305.out 1).trans rfl, (blk_cell BK306.out 0).trans rfl, (blk_cell BK306.out 1).trans rfl, (blk_cell BK302.out 0).trans rfl, (blk_cell BK302.out 1).trans rfl⟩) (fun hHeld => ?_)
             clear hK K
             refine norm_ (a' := ?_) ?_ ?_
             rotate_left
             ·exact z33_9
             refine pu_139 (i := 42) (N := some 83) (ba 53 8796093022207) ?_
             refine pu_139 (i := 43) (N := some 84) (ba 53 17592186044415) ?_
             refine tk_bae (i := 44) (N := some 85) (ba 53 35184372088831) hHeld ?_
             refine tk_bae (i := 45) (N := some 86) (ba 53 70368744177663) hHeld ?_
             refine one_ (i := 46) (N := some 87) (ba 53 140737488355327) rfl rfl (one_of HT_.out (by kernel_rfl)) (by decide) (fun K hK => ?_)
             refine goes_ Tryz.func28 (by kernel_rfl) rfl #[.agg #[.int .u32 a0_0, .int .i64 a0_1], .agg #[.int .u32 a0_0, .int .i64 (wrap64 (a0_1 + 1))]] (by first | rfl | exact wanted_on rfl rfl rfl (by first | rfl | (simp [*]; done) | (simp [*, IntKind.wrap_u32]; done))) rfl rfl (by (try simp only [List.map_toArray, List.map_cons, List.map_nil]); first | done | rfl | (simp only [List.length_drop, List.length_take]; rfl)) ?_
             with_reducible refine (addrs_Near.calls kj2 a0_0 a0_1 a0_0 (wrap64 (a0_1 + 1)) false _ A70.out).mono ?_
             rintro e w94 ⟨rfl, hb⟩
             refine ⟨_, rfl, ?_⟩
             replace BK302 := Aside0.mk (blk_below (g := gb302) (o := .cells #[.int .u32 a0_0, .int .i64 a0_1] 34 (0, 0)) (by (with_reducible repeat (first | refine blk_drewN ?_ _ | refine blk_drew ?_ | refine blk_alloc ?_ _)); exact BK302.out) hb)
             replace BK305 := Aside0.mk (blk_below (g := gb305) (o := .cells #[.int .u32 a0_0, .int .i64 (wrap64 (a0_1 + 1))] 34 (0, 0)) (by (with_reducible repeat (first | refine blk_drewN ?_ _ | refine blk_drew ?_ | refine blk_alloc ?_ _)); exact BK305.out) hb)
             replace BK306 := Aside0.mk (blk_below (g := gb306) (o := .cells #[.int .u32 (Go.bits .or .u32 a0_0 (ji17)), .int .i64 (wrap64 (a0_1 + 1))] 34 (0, 0)) (by (with_reducible repeat (first | refine blk_drewN ?_ _ | refine blk_drew ?_ | refine blk_alloc ?_ _)); exact BK306.out) hb)
             replace HB := Aside0.mk (below_step (by repeat (first | (with_reducible first | exact HB.out | apply below_alloc | apply pw_below_drewN | apply below_drew1 | refine below_set ?_ GE302.out | refine below_set ?_ GE305.out | refine below_set ?_ GE306.out) | exact HB.out)) hb)
             (try clear hb)
             (try clear hb2)
             (try clear hk)
             (try clear hi)
             refine hK.out _ _ (by exact ⟨(blk_cell BK305.out 0).trans rfl, (blk_cell BK305.out 1).trans rfl, (blk_cell BK306.out 0).trans rfl, (blk_cell BK306.out 1).trans rfl, (blk_cell BK302.out 0).trans rfl, (blk_cell BK302.out 1).trans rfl⟩) (fun hHeld => ?_)
             clear hK K
             refine norm_ (a' := ?_) ?_ ?_
             rotate_left
             ·exact z33_10
             refine pu_139 (i := 47) (N := some 88) (ba 53 281474976710655) ?_
             refine pu_139 (i := 48) (N := some 89) (ba 53 562949953421311) ?_
             refine pu_139 (i := 49) (N := some 90) (ba 53 1125899906842623) ?_
             refine one_ (i := 50) (N := some 91) (ba 53 2251799813685247) rfl rfl (one_of HT_.out (by kernel_rfl)) (by decide) (fun K hK => ?_)
             refine goes_ Tryz.func13 (by kernel_rfl) rfl #[] (by first | rfl | exact wanted_on rfl rfl rfl (by first | rfl | (simp [*]; done) | (simp [*, IntKind.wrap_u32]; done))) rfl rfl (by (try simp only [List.map_toArray, List.map_cons, List.map_nil]); first | done | rfl | (simp only [List.length_drop, List.length_take]; rfl)) ?_
             with_reducible refine (gangwaylaw02_fixed.calls kj2  t324 _ ?sideL A72.out).mono ?_
             case sideL => exact laid_below HLD.out (by repeat (first | (with_reducible first | exact HB.out | apply below_alloc | apply pw_below_drewN | apply below_drew1 | refine below_set ?_ GE302.out | refine below_set ?_ GE305.out | refine below_set ?_ GE306.out) | exact HB.out))
             rintro e w95 ⟨rfl, hb⟩
             refine ⟨_, rfl, ?_⟩
             replace BK302 := Aside0.mk (blk_below (g := gb302) (o := .cells #[.int .u32 a0_0, .int .i64 a0_1] 34 (0, 0)) (by (with_reducible repeat (first | refine blk_drewN ?_ _ | refine blk_drew ?_ | refine blk_alloc ?_ _)); exact BK302.out) hb)
             replace BK305 := Aside0.mk (blk_below (g := gb305) (o := .cells #[.int .u32 a0_0, .int .i64 (wrap64 (a0_1 + 1))] 34 (0, 0)) (by (with_reducible repeat (first | refine blk_drewN ?_ _ | refine blk_drew ?_ | refine blk_alloc ?_ _)); exact BK305.out) hb)
             replace BK306 := Aside0.mk (blk_below (g := gb306) (o := .cells #[.int .u32 (Go.bits .or .u32 a0_0 (ji17)), .int .i64 (wrap64 (a0_1 + 1))] 34 (0, 0)) (by (with_reducible repeat (first | refine blk_drewN ?_ _ | refine blk_drew ?_ | refine blk_alloc ?_ _)); exact BK306.out) hb)
             replace HB := Aside0.mk (below_step (by repeat (first | (with_reducible first | exact HB.out | apply below_alloc | apply pw_below_drewN | apply below_drew1 | refine below_set ?_ GE302.out | refine below_set ?_ GE305.out | refine below_set ?_ GE306.out) | exact HB.out)) hb)
             (try clear hb)
             (try clear hb2)
             (try clear hk)
             (try clear hi)
             refine hK.out _ _ (by exact ⟨(blk_cell BK305.out 0).trans rfl, (blk_cell BK305.out 1).trans rfl, (blk_cell BK306.out 0).trans rfl, (blk_cell BK306.out 1).trans rfl, (blk_cell BK302.out 0).trans rfl, (blk_cell BK302.out 1).trans rfl⟩) (fun hHeld => ?_)
             clear hK K
             refine norm_ (a' := ?_) ?_ ?_
             rotate_left
             ·exact z33_11
             refine pu_139 (i := 51) (N := some 92) (ba 53 4503599627370495) ?_
             refine pu_139 (i := 52) (N := some 4) (ba 53 9007199254740991) ?_
             refine done_ (done_of HT_.out (by kernel_rfl)) ?_
             try go_wp2
             go_ret
             exact ⟨(by first | rfl | (simp [errW_none, errW_some] <;> rfl) | (simp only [← hji15, ← hji17]; first | rfl | (simp [errW_none, errW_some] <;> rfl)) | (simp [*, errW_none, errW_some] <;> rfl) | (simp [*, IntKind.wrap_u32]; done) | (simp_all [IntKind.wrap_u32]; done)), (by repeat (first | (with_reducible first | exact HB.out | apply below_alloc | apply pw_below_drewN | apply below_drew1 | refine below_set ?_ GE302.out | refine below_set ?_ GE305.out | refine below_set ?_ GE306.out) | exact HB.out))⟩
           ·replace c69 := Bool.eq_false_iff.mpr c69
            subst c69
            exact z33_0
          ·rw [if_neg c67] at H
           have c67b0 : (((t321 + 1) % 4294967296) == (Go.bits .or .u32 a0_0 (ji17))) = false := beq_eq_false_iff_ne.mpr c67
           have c67b0w : (IntKind.u32.wrap (t321 + 1) == (Go.bits .or .u32 a0_0 (ji17))) = false := by rw [IntKind.wrap_u32]; exact c67b0
           have c67b1 : (((t321 + 1) % 4294967296) != (Go.bits .or .u32 a0_0 (ji17))) = true := bne_iff_ne.mpr c67
           have c67b1w : (IntKind.u32.wrap (t321 + 1) != (Go.bits .or .u32 a0_0 (ji17))) = true := by rw [IntKind.wrap_u32]; exact c67b1
           exact absurd H (by simp)
         ·rw [if_neg c65] at H
          have c65b0 : (t319 == t320) = false := beq_eq_false_iff_ne.mpr c65
          have c65b1 : (t319 != t320) = true := bne_iff_ne.mpr c65
          exact absurd H (by simp)
        ·rw [if_neg c62] at H
         have c62b0 : (t318 == t308) = false := by simpa using c62
         (try (have c62b1 : decide (t318 = t308) = false := by simpa using c62))
         (try (have c62b2 : (t318 == t308) = false := by simpa using c62))
         (try (have c62b3 : ¬ (t318 = t308) := by simpa using c62))
         clear c62
         exact absurd H (by simp)
      ·replace c23 := Bool.eq_false_iff.mpr c23
       subst c23
       exact z33_0
     ·replace c21 := Bool.eq_false_iff.mpr c21
      subst c21
      exact z33_0
    ·rw [if_neg c16] at H
     exact absurd H (by simp)
end Go.Proofs.YtgdjekigkimhnaaGreatDoor.P
