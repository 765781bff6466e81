-- slim
import Derived.Test.YtgdjekigkimhnaaGreatDoorRow
import Derived.Test.YtgdjekigkimhnaaGreatDoorAbb
import Derived.Test.YtgdjekigkimhnaaGreatDoorRow
import Derived.Test.YtgdjekigkimhnaaGreatDoorPx0
import Derived.Test.YtgdjekigkimhnaaGreatDoorPx1
import Derived.Test.YtgdjekigkimhnaaGreatDoorPx17
import Derived.Test.YtgdjekigkimhnaaGreatDoorPx18
import Derived.Test.YtgdjekigkimhnaaGreatDoorPx19
import Derived.Test.YtgdjekigkimhnaaGreatDoorPx20
import Derived.Test.YtgdjekigkimhnaaGreatDoorPx21
-- Written by wip/hprint.py (this session's program) through the kit's print program; hand contracts are marked 'by hand'.
namespace Go.Proofs.YtgdjekigkimhnaaGreatDoor.P
open Go.RowKit Go.Proofs.YtgdjekigkimhnaaGreatDoorW.PrintWords Go.Proofs.YtgdjekigkimhnaaGreatDoorW.PrintLast Go.Proofs.YtgdjekigkimhnaaGreatDoorW.PrintMore
attribute [local go_sem] max2_int min2_int max_two min_two max_three min_three max_four min_four   -- for this text's walks alone
set_option linter.unusedVariables false
set_option linter.unusedSimpArgs false

attribute [local go_sem high] eqA34
/-! ### gangwaylaw02_AddrsNets: function 6 -/
mutual
def gangwaylaw02_AddrsNets.j0 : Nat → Int → Bool → Int → Int → Int → Int → Option (Bool)
 | 0, _, _, _, _, _, _ => none
 | k + 1, x1, x19, x271000, x271001, x272000, x272001 => if x19 = true then ((addrs_Near.f k x271000 x271001 x272000 x272001).bind fun t274 => (if t274 = true then (none) else ((addrs_Near.f k x272000 x272001 x271000 x271001).bind fun t275 => (if t275 = true then (none) else ((gangwaylaw02_fixed.f k).bind fun t276 => (some t276)))))) else ((addrs_In.f k x271000 x271001 x1).bind fun t277 => (if t277 = true then ((addrs_In.f k x272000 x272001 x1).bind fun t278 => (gangwaylaw02_AddrsNets.j1 k x1 t278 x271000 x271001 x272000 x272001)) else (gangwaylaw02_AddrsNets.j1 k x1 false x271000 x271001 x272000 x272001)))
def gangwaylaw02_AddrsNets.j1 : Nat → Int → Bool → Int → Int → Int → Int → Option (Bool)
 | 0, _, _, _, _, _, _ => none
 | k + 1, x1, x7, x271000, x271001, x272000, x272001 => if x7 = true then ((addrs_Near.f k x271000 x271001 x272000 x272001).bind fun t279 => (if t279 = true then ((addrs_Near.f k x271000 x271001 x272000 x272001).bind fun t280 => (if t280 = true then ((addrs_In.f k x271000 x271001 x1).bind fun t281 => (if t281 = true then ((addrs_In.f k x272000 x272001 x1).bind fun t282 => (gangwaylaw02_AddrsNets.j2 k x1 (!t282) x271000 x271001 x272000 x272001)) else (gangwaylaw02_AddrsNets.j2 k x1 false x271000 x271001 x272000 x272001))) else (gangwaylaw02_AddrsNets.j2 k x1 false x271000 x271001 x272000 x272001))) else ((addrs_Near.f k x272000 x272001 x271000 x271001).bind fun t283 => (if t283 = true then ((addrs_Near.f k x271000 x271001 x272000 x272001).bind fun t284 => (if t284 = true then ((addrs_In.f k x271000 x271001 x1).bind fun t285 => (if t285 = true then ((addrs_In.f k x272000 x272001 x1).bind fun t286 => (gangwaylaw02_AddrsNets.j2 k x1 (!t286) x271000 x271001 x272000 x272001)) else (gangwaylaw02_AddrsNets.j2 k x1 false x271000 x271001 x272000 x272001))) else (gangwaylaw02_AddrsNets.j2 k x1 false x271000 x271001 x272000 x272001))) else (gangwaylaw02_AddrsNets.j2 k x1 true x271000 x271001 x272000 x272001))))) else ((addrs_Near.f k x271000 x271001 x272000 x272001).bind fun t287 => (if t287 = true then ((addrs_In.f k x271000 x271001 x1).bind fun t288 => (if t288 = true then ((addrs_In.f k x272000 x272001 x1).bind fun t289 => (gangwaylaw02_AddrsNets.j2 k x1 (!t289) x271000 x271001 x272000 x272001)) else (gangwaylaw02_AddrsNets.j2 k x1 false x271000 x271001 x272000 x272001))) else (gangwaylaw02_AddrsNets.j2 k x1 false x271000 x271001 x272000 x272001)))
def gangwaylaw02_AddrsNets.j2 : Nat → Int → Bool → Int → Int → Int → Int → Option (Bool)
 | 0, _, _, _, _, _, _ => none
 | k + 1, x1, x69, x271000, x271001, x272000, x272001 => if x69 = true then (none) else ((addrs_In.f k x271000 x271001 x1).bind fun t290 => (if x1 ≥ x271000 then ((addrs_Last.f k x271000 x271001).bind fun t291 => (if (t290 == (decide (x1 ≤ t291))) = true then ((addrs_Near.f k x271000 x271001 x271000 x271001).bind fun t292 => (if t292 = true then ((addrs_Near.f k x271000 x271001 x272000 x272001).bind fun t293 => (if t293 = true then ((addrs_Near.f k x272000 x272001 x271000 x271001).bind fun t294 => (if (t294 == (x271000 == x272000 && (x271001 == x272001))) = true then ((gangwaylaw02_fixed.f k).bind fun t295 => (some t295)) else (none))) else (if (false == (x271000 == x272000 && (x271001 == x272001))) = true then ((gangwaylaw02_fixed.f k).bind fun t296 => (some t296)) else (none)))) else (none))) else (none))) else (if (t290 == false) = true then ((addrs_Near.f k x271000 x271001 x271000 x271001).bind fun t297 => (if t297 = true then ((addrs_Near.f k x271000 x271001 x272000 x272001).bind fun t298 => (if t298 = true then ((addrs_Near.f k x272000 x272001 x271000 x271001).bind fun t299 => (if (t299 == (x271000 == x272000 && (x271001 == x272001))) = true then ((gangwaylaw02_fixed.f k).bind fun t300 => (some t300)) else (none))) else (if (false == (x271000 == x272000 && (x271001 == x272001))) = true then ((gangwaylaw02_fixed.f k).bind fun t301 => (some t301)) else (none)))) else (none))) else (none))))
end
def gangwaylaw02_AddrsNets.f (k : Nat) (a0_0 : Int) (a0_1 : Int) (a0_2 : Int) (a0_3 : Int) (a1 : Int) : Option (Bool) := (addrs_Net.f k a0_0 a0_1).bind fun t272 => (if t272 = true then ((addrs_Net.f k a0_2 a0_3).bind fun t273 => (gangwaylaw02_AddrsNets.j0 k a1 (!t273) a0_0 a0_1 a0_2 a0_3)) else (gangwaylaw02_AddrsNets.j0 k a1 true a0_0 a0_1 a0_2 a0_3))
theorem gangwaylaw02_AddrsNets.mono_l : ∀ k, (∀ y0 y1 y2 y3 y4 y5, LeO (gangwaylaw02_AddrsNets.j0 k y0 y1 y2 y3 y4 y5) (gangwaylaw02_AddrsNets.j0 (k + 1) y0 y1 y2 y3 y4 y5)) ∧ (∀ y0 y1 y2 y3 y4 y5, LeO (gangwaylaw02_AddrsNets.j1 k y0 y1 y2 y3 y4 y5) (gangwaylaw02_AddrsNets.j1 (k + 1) y0 y1 y2 y3 y4 y5)) ∧ (∀ y0 y1 y2 y3 y4 y5, LeO (gangwaylaw02_AddrsNets.j2 k y0 y1 y2 y3 y4 y5) (gangwaylaw02_AddrsNets.j2 (k + 1) y0 y1 y2 y3 y4 y5))
 | 0 => ⟨fun _ _ _ _ _ _ r h => by simp [gangwaylaw02_AddrsNets.j0] at h, fun _ _ _ _ _ _ r h => by simp [gangwaylaw02_AddrsNets.j1] at h, fun _ _ _ _ _ _ r h => by simp [gangwaylaw02_AddrsNets.j2] at h⟩
 | k + 1 => by
  obtain ⟨ih0, ih1, ih2⟩ := gangwaylaw02_AddrsNets.mono_l k
  refine ⟨?_, ?_, ?_⟩
  ·intro y0 y1 y2 y3 y4 y5
   unfold gangwaylaw02_AddrsNets.j0
   repeat' first
   | (with_reducible exact ih0 _ _ _ _ _ _)
   | (with_reducible exact ih1 _ _ _ _ _ _)
   | (with_reducible exact ih2 _ _ _ _ _ _)
   | (with_reducible exact addrs_In.mono _ _ _ _)
   | (with_reducible exact addrs_Last.mono _ _ _)
   | (with_reducible exact addrs_Near.mono _ _ _ _ _)
   | (with_reducible exact addrs_Net.mono _ _ _)
   | (with_reducible exact gangwaylaw02_fixed.mono _)
   | (with_reducible exact LeO.refl _)
   | (with_reducible exact LeO.none _)
   | (with_reducible refine LeO.ite ?_ ?_)
   | (with_reducible refine LeO.bind ?_ (fun _ => ?_))
   | exact ih0 _ _ _ _ _ _
   | exact ih1 _ _ _ _ _ _
   | exact ih2 _ _ _ _ _ _
   | exact addrs_In.mono _ _ _ _
   | exact addrs_Last.mono _ _ _
   | exact addrs_Near.mono _ _ _ _ _
   | exact addrs_Net.mono _ _ _
   | exact gangwaylaw02_fixed.mono _
   | exact LeO.none _
   | refine LeO.ite ?_ ?_
   | refine LeO.bind ?_ (fun _ => ?_)
  ·intro y0 y1 y2 y3 y4 y5
   unfold gangwaylaw02_AddrsNets.j1
   repeat' first
   | (with_reducible exact ih0 _ _ _ _ _ _)
   | (with_reducible exact ih1 _ _ _ _ _ _)
   | (with_reducible exact ih2 _ _ _ _ _ _)
   | (with_reducible exact addrs_In.mono _ _ _ _)
   | (with_reducible exact addrs_Last.mono _ _ _)
   | (with_reducible exact addrs_Near.mono _ _ _ _ _)
   | (with_reducible exact addrs_Net.mono _ _ _)
   | (with_reducible exact gangwaylaw02_fixed.mono _)
   | (with_reducible exact LeO.refl _)
   | (with_reducible exact LeO.none _)
   | (with_reducible refine LeO.ite ?_ ?_)
   | (with_reducible refine LeO.bind ?_ (fun _ => ?_))
   | exact ih0 _ _ _ _ _ _
   | exact ih1 _ _ _ _ _ _
   | exact ih2 _ _ _ _ _ _
   | exact addrs_In.mono _ _ _ _
   | exact addrs_Last.mono _ _ _
   | exact addrs_Near.mono _ _ _ _ _
   | exact addrs_Net.mono _ _ _
   | exact gangwaylaw02_fixed.mono _
   | exact LeO.none _
   | refine LeO.ite ?_ ?_
   | refine LeO.bind ?_ (fun _ => ?_)
  ·intro y0 y1 y2 y3 y4 y5
   unfold gangwaylaw02_AddrsNets.j2
   repeat' first
   | (with_reducible exact ih0 _ _ _ _ _ _)
   | (with_reducible exact ih1 _ _ _ _ _ _)
   | (with_reducible exact ih2 _ _ _ _ _ _)
   | (with_reducible exact addrs_In.mono _ _ _ _)
   | (with_reducible exact addrs_Last.mono _ _ _)
   | (with_reducible exact addrs_Near.mono _ _ _ _ _)
   | (with_reducible exact addrs_Net.mono _ _ _)
   | (with_reducible exact gangwaylaw02_fixed.mono _)
   | (with_reducible exact LeO.refl _)
   | (with_reducible exact LeO.none _)
   | (with_reducible refine LeO.ite ?_ ?_)
   | (with_reducible refine LeO.bind ?_ (fun _ => ?_))
   | exact ih0 _ _ _ _ _ _
   | exact ih1 _ _ _ _ _ _
   | exact ih2 _ _ _ _ _ _
   | exact addrs_In.mono _ _ _ _
   | exact addrs_Last.mono _ _ _
   | exact addrs_Near.mono _ _ _ _ _
   | exact addrs_Net.mono _ _ _
   | exact gangwaylaw02_fixed.mono _
   | exact LeO.none _
   | refine LeO.ite ?_ ?_
   | refine LeO.bind ?_ (fun _ => ?_)
theorem gangwaylaw02_AddrsNets.mono : ∀ a0 a1 a2 a3 a4 k, LeO (gangwaylaw02_AddrsNets.f k a0 a1 a2 a3 a4) (gangwaylaw02_AddrsNets.f (k + 1) a0 a1 a2 a3 a4) := by
 intro a0 a1 a2 a3 a4 k
 obtain ⟨ih0, ih1, ih2⟩ := gangwaylaw02_AddrsNets.mono_l k
 unfold gangwaylaw02_AddrsNets.f
 repeat' first
   | (with_reducible exact ih0 _ _ _ _ _ _)
   | (with_reducible exact ih1 _ _ _ _ _ _)
   | (with_reducible exact ih2 _ _ _ _ _ _)
   | (with_reducible exact addrs_In.mono _ _ _ _)
   | (with_reducible exact addrs_Last.mono _ _ _)
   | (with_reducible exact addrs_Near.mono _ _ _ _ _)
   | (with_reducible exact addrs_Net.mono _ _ _)
   | (with_reducible exact gangwaylaw02_fixed.mono _)
   | (with_reducible exact LeO.refl _)
   | (with_reducible exact LeO.none _)
   | (with_reducible refine LeO.ite ?_ ?_)
   | (with_reducible refine LeO.bind ?_ (fun _ => ?_))
   | exact ih0 _ _ _ _ _ _
   | exact ih1 _ _ _ _ _ _
   | exact ih2 _ _ _ _ _ _
   | exact addrs_In.mono _ _ _ _
   | exact addrs_Last.mono _ _ _
   | exact addrs_Near.mono _ _ _ _ _
   | exact addrs_Net.mono _ _ _
   | exact gangwaylaw02_fixed.mono _
   | exact LeO.none _
   | refine LeO.ite ?_ ?_
   | refine LeO.bind ?_ (fun _ => ?_)
def gangwaylaw02_AddrsNets.T1 : Bool × List (List Nat × List Nat) := (true, [([], []), ([0], [0]), ([], []), ([2], [2]), ([], []), ([], []), ([4, 1, 0, 1, 4, 5], [1, 4]), ([5, 3, 6, 0, 1, 2, 3, 4, 5, 6], [3, 5])])
def gangwaylaw02_AddrsNets.B1 : List Nat := [0, 1, 0, 4, 0, 0, 51, 127]
theorem gangwaylaw02_AddrsNets.tab1 : rtab .any (opsOf Tryz.f6 1) = gangwaylaw02_AddrsNets.T1 := by kernel_rfl
theorem gangwaylaw02_AddrsNets.bits1 : waitsOk gangwaylaw02_AddrsNets.T1.2 gangwaylaw02_AddrsNets.B1 = true := by kernel_rfl
def gangwaylaw02_AddrsNets.T7 : Bool × List (List Nat × List Nat) := (true, [([], []), ([], []), ([0, 1], [0, 1]), ([], []), ([], []), ([4], [4]), ([3, 5], [3, 5]), ([6, 2], [6]), ([7], [7]), ([7], [7]), ([9, 7, 7], [7, 9]), ([8, 10, 7], [7, 8, 10]), ([7, 11], [7, 11]), ([2, 12], [2, 12]), ([13, 10], [13]), ([14], [14]), ([14], [14]), ([15, 16, 14, 14], [14, 15, 16]), ([14, 17], [14, 17]), ([18, 17], [18]), ([19], [19]), ([19], [19]), ([20, 21, 19, 19], [19, 20, 21]), ([22, 22, 19], [19, 22]), ([23], [23]), ([23], [23]), ([24, 25, 23, 23], [23, 24, 25]), ([23, 26, 19], [19, 23, 26]), ([19], [19]), ([19], [19]), ([28, 29, 19], [19, 28, 29]), ([27, 30, 19], [19, 27, 30]), ([19, 31], [19, 31]), ([32, 26], [32]), ([33, 33], [33]), ([33, 34], [33, 34]), ([35, 34, 0, 1, 2, 3, 4, 5, 6, 7, 8, 9, 10, 11, 12, 13, 14, 15, 16, 17, 18, 19, 20, 21, 22, 23, 24, 25, 26, 27, 28, 29, 30, 31, 32, 33, 34, 35], [35])])
def gangwaylaw02_AddrsNets.B7 : List Nat := [0, 0, 3, 0, 0, 16, 56, 127, 255, 255, 767, 2047, 4095, 8191, 16383, 32767, 32767, 131071, 262143, 524287, 1048575, 1048575, 4194303, 8388607, 16777215, 16777215, 67108863, 134217727, 1048575, 1048575, 806354943, 2147483647, 4294967295, 8589934591, 17179869183, 34359738367, 68719476735]
theorem gangwaylaw02_AddrsNets.tab7 : rtab .any (opsOf Tryz.f6 7) = gangwaylaw02_AddrsNets.T7 := by kernel_rfl
theorem gangwaylaw02_AddrsNets.bits7 : waitsOk gangwaylaw02_AddrsNets.T7.2 gangwaylaw02_AddrsNets.B7 = true := by kernel_rfl
theorem z32_0 {p : Prop} (h : p := by
 simp only [Act.put, List.setIfInBounds_toArray, List.set_cons_zero, List.set_cons_succ, i64_w, i32_w]
 rfl) : p := h
theorem z32_1 {p : Prop} (h : p := by
 have H' := Aside0.mk H
 clear H
 have hnbz0 := NB270_269.out
 have hncz0 := NB269_270.out
 have hnbz1 := NB270_271.out
 have hncz1 := NB271_270.out
 have hczz2_0 : wc.cell? ⟨gb270, 0, none⟩ = some (.int .u32 a0_0) := (blk_cell BK270.out 0).trans rfl
 have hczz2_1 : wc.cell? ⟨gb270, 1, none⟩ = some (.int .i64 a0_1) := (blk_cell BK270.out 1).trans rfl
 have hfzz2_0 := blk_frozen BK270.out 0
 have hfzz2_1 := blk_frozen BK270.out 1
 have hnbz3 := NB271_269.out
 have hncz3 := NB269_271.out
 have hczz4_0 : wc.cell? ⟨gb271, 0, none⟩ = some (.int .u32 a0_2) := (blk_cell BK271.out 0).trans rfl
 have hczz4_1 : wc.cell? ⟨gb271, 1, none⟩ = some (.int .i64 a0_3) := (blk_cell BK271.out 1).trans rfl
 have hfzz4_0 := blk_frozen BK271.out 0
 have hfzz4_1 := blk_frozen BK271.out 1
 exact absurd (A60.out.symm.trans A102.out) (by decide)) : p := h
theorem z32_2 {p : Prop} (h : p := by
 show Act.put _ (some 104) _ = _
 simp only [Act.put, List.setIfInBounds_toArray, List.set_cons_zero, List.set_cons_succ, i64_w, i32_w]
 rfl) : p := h
theorem z32_3 {p : Prop} (h : p := by
 show Act.put _ (some 72) _ = _
 simp only [Act.put, List.setIfInBounds_toArray, List.set_cons_zero, List.set_cons_succ, i64_w, i32_w]
 rfl) : p := h
theorem z32_4 {p : Prop} (h : p := by
 show Act.put _ (some 87) _ = _
 simp only [Act.put, List.setIfInBounds_toArray, List.set_cons_zero, List.set_cons_succ, i64_w, i32_w]
 rfl) : p := h
theorem z32_5 {p : Prop} (h : p := by
 show Act.put _ (some 92) _ = _
 simp only [Act.put, List.setIfInBounds_toArray, List.set_cons_zero, List.set_cons_succ, i64_w, i32_w]
 rfl) : p := h
theorem z32_6 {p : Prop} (h : p := by
 show Act.put _ (some 80) _ = _
 simp only [Act.put, List.setIfInBounds_toArray, List.set_cons_zero, List.set_cons_succ, i64_w, i32_w]
 rfl) : p := h
theorem z32_7 {p : Prop} (h : p := by
 show Act.put _ (some 96) _ = _
 simp only [Act.put, List.setIfInBounds_toArray, List.set_cons_zero, List.set_cons_succ, i64_w, i32_w]
 rfl) : p := h
set_option maxHeartbeats 8000000 in
set_option maxRecDepth 100000 in
theorem gangwaylaw02_AddrsNets.calls (k : Nat) (a0_0 : Int) (a0_1 : Int) (a0_2 : Int) (a0_3 : Int) (a1 : Int) (r : Bool) (w : World) (hL : Laid w) (h : gangwaylaw02_AddrsNets.f k a0_0 a0_1 a0_2 a0_3 a1 = some r) :
  Calls Tryz.prog 6 #[.agg #[.int .u32 a0_0, .int .i64 a0_1, .int .u32 a0_2, .int .i64 a0_3], .int .u32 a1] w fun e w' => e = .returned (.bool r) ∧ Below w.heap.size w w' := by
 have HLD := Aside0.mk hL
 clear hL
 have hu36 := Tryz.underlying36
 have hu34 := Tryz.underlying34
 have HB := Aside0.mk (Below.refl w.heap.size w)
 have H := h
 unfold gangwaylaw02_AddrsNets.f at H
 clear h
 have HC3 := Aside0.mk H
 clear H
 go_enter Tryz.func6, Tryz.ntmps6
 try go_wp2_with (first | ((with_reducible refine gate_dst (N := 2) rfl ?_); refine box_event (by rfl) (N := 2) (by rfl) (cs := #[.int .u32 a0_0, .int .i64 a0_1, .int .u32 a0_2, .int .i64 a0_3]) (t := 36) (by first | (go_simp; done) | (go_simp; rfl)) ?_; intro gb269 hg w4 hbox hb; have BK269 := Aside0.mk (hbox); have GE269 := Aside0.mk ((by rw [hg]; exact (below_size (by repeat (first | (with_reducible first | exact HB.out | apply below_alloc | apply pw_below_drewN | apply below_drew1) | exact HB.out))) : w.heap.size ≤ gb269)); replace HB := Aside0.mk (below_step (by repeat (first | (with_reducible first | exact HB.out | apply below_alloc | apply pw_below_drewN | apply below_drew1) | exact HB.out)) hb); clear hb hbox hg))
 replace BK269 := Aside0.mk (blk_drew BK269.out)
 replace HB := Aside0.mk (below_drew1 HB.out)
 refine start_ (n := 8) (S := fun w' => True) (ds := []) (ba 8 0) (by kernel_rfl) rfl rfl trivial (fun hHeld => ?_); refine with_tabW gangwaylaw02_AddrsNets.tab1 gangwaylaw02_AddrsNets.bits1 (fun HT_ HW_ => ?_)
 generalize w4.drew = w5 at BK269 HB hHeld ⊢
 refine pu_139 (i := 0) (N := some 8) (ba 8 1) ?_
 refine pu_139 (i := 2) (N := some 10) (ba 8 5) ?_
 refine inv_at [1, 3, 4, 5, 6, 7] (fun a0_ b a w' => ∃ (gb270 : Nat) (gb271 : Nat) (m4_ : Value) (m5_ : Value), a = putSel a0_ b [(1, 9, .agg #[.int .u32 a0_0, .int .i64 a0_1]), (3, 11, .agg #[.int .u32 a0_2, .int .i64 a0_3]), (4, 5, m4_), (5, 6, m5_)] ∧ (w'.heap[gb269]? = some (.cells #[.int .u32 a0_0, .int .i64 a0_1, .int .u32 a0_2, .int .i64 a0_3] 36 (0, 0))) ∧ (Below w.heap.size w w') ∧ (b 4 = true → b 5 = true → gb271 ≠ gb270) ∧ (b 4 = true → b 5 = true → gb270 ≠ gb271) ∧ (b 4 = true → b 6 = false → w'.heap[gb270]? = some (.cells #[.int .u32 0, .int .i64 0] 34 (0, 0))) ∧ (b 4 = true → w.heap.size ≤ gb270) ∧ (b 4 = true → w.heap.size ≤ gb270) ∧ (b 4 = true → gb269 ≠ gb270) ∧ (b 4 = true → gb270 ≠ gb269) ∧ (b 5 = true → b 7 = false → w'.heap[gb271]? = some (.cells #[.int .u32 0, .int .i64 0] 34 (0, 0))) ∧ (b 5 = true → w.heap.size ≤ gb271) ∧ (b 5 = true → w.heap.size ≤ gb271) ∧ (b 5 = true → gb269 ≠ gb271) ∧ (b 5 = true → gb271 ≠ gb269) ∧ (b 6 = true → w'.heap[gb270]? = some (.cells #[.int .u32 a0_0, .int .i64 a0_1] 34 (0, 0))) ∧ (b 7 = true → w'.heap[gb271]? = some (.cells #[.int .u32 a0_2, .int .i64 a0_3] 34 (0, 0))) ∧ (b 4 = true → (m4_ : Value) = .pointer (some ⟨gb270, 0, none⟩)) ∧ (b 5 = true → (m5_ : Value) = .pointer (some ⟨gb271, 0, none⟩))) HT_.out HW_.out (by kernel_rfl) (by kernel_rfl) ?_ ?_ ?_
 ·exact ⟨0, 0, .bool false, .bool false, (by simp only [putSel, Bool.false_eq_true, if_false]), BK269.out, HB.out, fun h_ => absurd h_ (by decide), fun h_ => absurd h_ (by decide), fun h_ => absurd h_ (by decide), fun h_ => absurd h_ (by decide), fun h_ => absurd h_ (by decide), fun h_ => absurd h_ (by decide), fun h_ => absurd h_ (by decide), fun h_ => absurd h_ (by decide), fun h_ => absurd h_ (by decide), fun h_ => absurd h_ (by decide), fun h_ => absurd h_ (by decide), fun h_ => absurd h_ (by decide), fun h_ => absurd h_ (by decide), fun h_ => absurd h_ (by decide), fun h_ => absurd h_ (by decide), fun h_ => absurd h_ (by decide)⟩
 ·skip
  clear BK269 HB
  refine steps_cons ?_ ?_
  ·rintro b a w' ⟨gb270, gb271, m4_, m5_, ha, Q_BK269, Q_HB, Q_NB271_270, Q_NB270_271, Q_BK270, Q_GW270, Q_GE270, Q_NB269_270, Q_NB270_269, Q_BK271, Q_GW271, Q_GE271, Q_NB269_271, Q_NB271_269, Q_BK270_e6, Q_BK271_e7, Q_X4_, Q_X5_⟩ hb_ hon hoff
   refine ⟨_, rfl, fun K hK => ?_⟩
   have e8 : a.tmps[8]? = some (.pointer (some ⟨gb269, 0, none⟩)) := by rw [ha]; exact (putSel_off rfl).trans rfl
   replace ha := Aside0.mk ha
   have BK269 := Aside0.mk Q_BK269
   have HB := Aside0.mk Q_HB
   have hc0_ : w'.cell? ⟨gb269, 0, none⟩ = some (.int .u32 a0_0) := (blk_cell BK269.out 0).trans rfl
   have hc1_ : w'.cell? ⟨gb269, 1, none⟩ = some (.int .i64 a0_1) := (blk_cell BK269.out 1).trans rfl
   have hc2_ : w'.cell? ⟨gb269, 2, none⟩ = some (.int .u32 a0_2) := (blk_cell BK269.out 2).trans rfl
   have hc3_ : w'.cell? ⟨gb269, 3, none⟩ = some (.int .i64 a0_3) := (blk_cell BK269.out 3).trans rfl
   refine value_ (w1 := w') (v := .agg #[.int .u32 a0_0, .int .i64 a0_1]) (by rfl) rfl ?_ ?_
   ·go_simp
    (try simp only [i64_w])
    try rfl
   refine hK.out _ _ (by exact ⟨gb270, gb271, m4_, m5_, (by rw [ha.out]; exact putSel_upk 0 hb_ rfl rfl rfl), Q_BK269, Q_HB, Q_NB271_270, Q_NB270_271, Q_BK270, Q_GW270, Q_GE270, Q_NB269_270, Q_NB270_269, Q_BK271, Q_GW271, Q_GE271, Q_NB269_271, Q_NB271_269, fun h0_ => absurd ((hoff 6 (by kernel_rfl)).symm.trans h0_) (by decide), fun h0_ => absurd ((hoff 7 (by kernel_rfl)).symm.trans h0_) (by decide), Q_X4_, Q_X5_⟩)
  refine steps_cons ?_ ?_
  ·rintro b a w' ⟨gb270, gb271, m4_, m5_, ha, Q_BK269, Q_HB, Q_NB271_270, Q_NB270_271, Q_BK270, Q_GW270, Q_GE270, Q_NB269_270, Q_NB270_269, Q_BK271, Q_GW271, Q_GE271, Q_NB269_271, Q_NB271_269, Q_BK270_e6, Q_BK271_e7, Q_X4_, Q_X5_⟩ hb_ hon hoff
   refine ⟨_, rfl, fun K hK => ?_⟩
   have e10 : a.tmps[10]? = some (.pointer (some ⟨gb269, 2, none⟩)) := by rw [ha]; exact (putSel_off rfl).trans rfl
   replace ha := Aside0.mk ha
   have BK269 := Aside0.mk Q_BK269
   have HB := Aside0.mk Q_HB
   have hc0_ : w'.cell? ⟨gb269, 0, none⟩ = some (.int .u32 a0_0) := (blk_cell BK269.out 0).trans rfl
   have hc1_ : w'.cell? ⟨gb269, 1, none⟩ = some (.int .i64 a0_1) := (blk_cell BK269.out 1).trans rfl
   have hc2_ : w'.cell? ⟨gb269, 2, none⟩ = some (.int .u32 a0_2) := (blk_cell BK269.out 2).trans rfl
   have hc3_ : w'.cell? ⟨gb269, 3, none⟩ = some (.int .i64 a0_3) := (blk_cell BK269.out 3).trans rfl
   refine value_ (w1 := w') (v := .agg #[.int .u32 a0_2, .int .i64 a0_3]) (by rfl) rfl ?_ ?_
   ·go_simp
    (try simp only [i64_w])
    try rfl
   refine hK.out _ _ (by exact ⟨gb270, gb271, m4_, m5_, (by rw [ha.out]; exact putSel_upk 1 hb_ rfl rfl rfl), Q_BK269, Q_HB, Q_NB271_270, Q_NB270_271, Q_BK270, Q_GW270, Q_GE270, Q_NB269_270, Q_NB270_269, Q_BK271, Q_GW271, Q_GE271, Q_NB269_271, Q_NB271_269, Q_BK270_e6, fun h0_ => absurd ((hoff 7 (by kernel_rfl)).symm.trans h0_) (by decide), Q_X4_, Q_X5_⟩)
  refine steps_cons ?_ ?_
  ·rintro b a w' ⟨gb270, gb271, m4_, m5_, ha, Q_BK269, Q_HB, Q_NB271_270, Q_NB270_271, Q_BK270, Q_GW270, Q_GE270, Q_NB269_270, Q_NB270_269, Q_BK271, Q_GW271, Q_GE271, Q_NB269_271, Q_NB271_269, Q_BK270_e6, Q_BK271_e7, Q_X4_, Q_X5_⟩ hb_ hon hoff
   refine ⟨_, rfl, fun K hK => ?_⟩
   replace ha := Aside0.mk ha
   have BK269 := Aside0.mk Q_BK269
   have HB := Aside0.mk Q_HB
   refine box_step ?hg (N := 5) ?hd (cs := #[.int .u32 0, .int .i64 0]) (t := 34) ?hr ?_; (case hd => rfl); (case hg => rfl); (case hr => first | (go_simp; done) | (go_simp; rfl))
   intro gb270 hg w6 hbox hb
   have n0_ := Aside0.mk (blk_below (g := gb269) (o := .cells #[.int .u32 a0_0, .int .i64 a0_1, .int .u32 a0_2, .int .i64 a0_3] 36 (0, 0)) (by (with_reducible repeat (first | refine blk_drewN ?_ _ | refine blk_drew ?_ | refine blk_alloc ?_ _)); exact BK269.out) hb)
   have n1_ := Aside0.mk (below_step (by repeat (first | (with_reducible first | exact HB.out | apply below_alloc | apply pw_below_drewN | apply below_drew1 | refine below_set ?_ GE269.out) | exact HB.out)) hb)
   have n2_ := Aside0.mk (hbox)
   have n3_ := Aside0.mk ((by rw [hg]; exact (below_size (by repeat (first | (with_reducible first | exact HB.out | apply below_alloc | apply pw_below_drewN | apply below_drew1 | refine below_set ?_ GE269.out) | exact HB.out))) : w.heap.size ≤ gb270))
   have n4_ := Aside0.mk ((by rw [hg]; exact (below_size (by repeat (first | (with_reducible first | exact HB.out | apply below_alloc | apply pw_below_drewN | apply below_drew1 | refine below_set ?_ GE269.out) | exact HB.out))) : w.heap.size ≤ gb270))
   have n5_ := Aside0.mk ((by rw [hg]; exact Nat.ne_of_lt (blk_lt (g := gb269) (o := .cells #[.int .u32 a0_0, .int .i64 a0_1, .int .u32 a0_2, .int .i64 a0_3] 36 (0, 0)) (by (with_reducible repeat (first | refine blk_drewN ?_ _ | refine blk_drew ?_ | refine blk_alloc ?_ _)); exact BK269.out)) : gb269 ≠ gb270))
   have n6_ := Aside0.mk ((by rw [hg]; exact Nat.ne_of_gt (blk_lt (g := gb269) (o := .cells #[.int .u32 a0_0, .int .i64 a0_1, .int .u32 a0_2, .int .i64 a0_3] 36 (0, 0)) (by (with_reducible repeat (first | refine blk_drewN ?_ _ | refine blk_drew ?_ | refine blk_alloc ?_ _)); exact BK269.out)) : gb270 ≠ gb269))
   have z_NB271_270 := fun (h0_ : up b 4 4 = true) (h1_ : up b 4 5 = true) => (show gb271 ≠ gb270 from (by rw [hg]; exact Nat.ne_of_lt (by rcases Bool.eq_false_or_eq_true (b 7) with h7_ | h7_; exact blk_lt (Q_BK271_e7 h7_); exact blk_lt (Q_BK271 h1_ h7_))))
   have z_NB270_271 := fun (h0_ : up b 4 4 = true) (h1_ : up b 4 5 = true) => (show gb270 ≠ gb271 from (by rw [hg]; exact Nat.ne_of_gt (by rcases Bool.eq_false_or_eq_true (b 7) with h7_ | h7_; exact blk_lt (Q_BK271_e7 h7_); exact blk_lt (Q_BK271 h1_ h7_))))
   have z_BK271 := fun (h0_ : b 5 = true) (h1_ : b 7 = false) => (show w6.heap[gb271]? = some (.cells #[.int .u32 0, .int .i64 0] 34 (0, 0)) from by first | exact (blk_below (g := gb271) (o := .cells #[.int .u32 0, .int .i64 0] 34 (0, 0)) (by (with_reducible repeat (first | refine blk_drewN ?_ _ | refine blk_drew ?_ | refine blk_alloc ?_ _)); exact (Q_BK271 h0_ h1_)) hb))
   clear BK269
   clear HB
   have BK269 := n0_
   have HB := n1_
   have BK270 := n2_
   have GW270 := n3_
   have GE270 := n4_
   have NB269_270 := n5_
   have NB270_269 := n6_
   clear n0_ n1_ n2_ n3_ n4_ n5_ n6_
   clear hb hbox hg
   refine hK.out _ _ (by exact ⟨gb270, gb271, (.pointer (some ⟨gb270, 0, none⟩)), m5_, (by rw [ha.out]; exact putSel_upk 2 hb_ rfl rfl rfl), (by (with_reducible repeat (first | refine blk_drewN ?_ _ | refine blk_drew ?_ | refine blk_alloc ?_ _)); exact BK269.out), (by repeat (first | (with_reducible first | exact HB.out | apply below_alloc | apply pw_below_drewN | apply below_drew1 | refine below_set ?_ GE269.out | refine below_set ?_ GE270.out) | exact HB.out)), @z_NB271_270, @z_NB270_271, fun _ _ => (by (with_reducible repeat (first | refine blk_drewN ?_ _ | refine blk_drew ?_ | refine blk_alloc ?_ _)); exact BK270.out), fun _ => GW270.out, fun _ => GE270.out, fun _ => NB269_270.out, fun _ => NB270_269.out, z_BK271, Q_GW271, Q_GE271, Q_NB269_271, Q_NB271_269, fun h0_ => absurd ((hoff 6 (by kernel_rfl)).symm.trans h0_) (by decide), fun h0_ => absurd ((hoff 7 (by kernel_rfl)).symm.trans h0_) (by decide), fun _ => rfl, Q_X5_⟩)
  refine steps_cons ?_ ?_
  ·rintro b a w' ⟨gb270, gb271, m4_, m5_, ha, Q_BK269, Q_HB, Q_NB271_270, Q_NB270_271, Q_BK270, Q_GW270, Q_GE270, Q_NB269_270, Q_NB270_269, Q_BK271, Q_GW271, Q_GE271, Q_NB269_271, Q_NB271_269, Q_BK270_e6, Q_BK271_e7, Q_X4_, Q_X5_⟩ hb_ hon hoff
   refine ⟨_, rfl, fun K hK => ?_⟩
   replace ha := Aside0.mk ha
   have BK269 := Aside0.mk Q_BK269
   have HB := Aside0.mk Q_HB
   refine box_step ?hg (N := 6) ?hd (cs := #[.int .u32 0, .int .i64 0]) (t := 34) ?hr ?_; (case hd => rfl); (case hg => rfl); (case hr => first | (go_simp; done) | (go_simp; rfl))
   intro gb271 hg w6 hbox hb
   have n0_ := Aside0.mk (blk_below (g := gb269) (o := .cells #[.int .u32 a0_0, .int .i64 a0_1, .int .u32 a0_2, .int .i64 a0_3] 36 (0, 0)) (by (with_reducible repeat (first | refine blk_drewN ?_ _ | refine blk_drew ?_ | refine blk_alloc ?_ _)); exact BK269.out) hb)
   have n1_ := Aside0.mk (below_step (by repeat (first | (with_reducible first | exact HB.out | apply below_alloc | apply pw_below_drewN | apply below_drew1 | refine below_set ?_ GE269.out) | exact HB.out)) hb)
   have n2_ := Aside0.mk (hbox)
   have n3_ := Aside0.mk ((by rw [hg]; exact (below_size (by repeat (first | (with_reducible first | exact HB.out | apply below_alloc | apply pw_below_drewN | apply below_drew1 | refine below_set ?_ GE269.out) | exact HB.out))) : w.heap.size ≤ gb271))
   have n4_ := Aside0.mk ((by rw [hg]; exact (below_size (by repeat (first | (with_reducible first | exact HB.out | apply below_alloc | apply pw_below_drewN | apply below_drew1 | refine below_set ?_ GE269.out) | exact HB.out))) : w.heap.size ≤ gb271))
   have n5_ := Aside0.mk ((by rw [hg]; exact Nat.ne_of_lt (blk_lt (g := gb269) (o := .cells #[.int .u32 a0_0, .int .i64 a0_1, .int .u32 a0_2, .int .i64 a0_3] 36 (0, 0)) (by (with_reducible repeat (first | refine blk_drewN ?_ _ | refine blk_drew ?_ | refine blk_alloc ?_ _)); exact BK269.out)) : gb269 ≠ gb271))
   have n6_ := Aside0.mk ((by rw [hg]; exact Nat.ne_of_gt (blk_lt (g := gb269) (o := .cells #[.int .u32 a0_0, .int .i64 a0_1, .int .u32 a0_2, .int .i64 a0_3] 36 (0, 0)) (by (with_reducible repeat (first | refine blk_drewN ?_ _ | refine blk_drew ?_ | refine blk_alloc ?_ _)); exact BK269.out)) : gb271 ≠ gb269))
   have z_NB271_270 := fun (h0_ : up b 5 4 = true) (h1_ : up b 5 5 = true) => (show gb271 ≠ gb270 from (by rw [hg]; exact Nat.ne_of_gt (by rcases Bool.eq_false_or_eq_true (b 6) with h7_ | h7_; exact blk_lt (Q_BK270_e6 h7_); exact blk_lt (Q_BK270 h0_ h7_))))
   have z_NB270_271 := fun (h0_ : up b 5 4 = true) (h1_ : up b 5 5 = true) => (show gb270 ≠ gb271 from (by rw [hg]; exact Nat.ne_of_lt (by rcases Bool.eq_false_or_eq_true (b 6) with h7_ | h7_; exact blk_lt (Q_BK270_e6 h7_); exact blk_lt (Q_BK270 h0_ h7_))))
   have z_BK270 := fun (h0_ : b 4 = true) (h1_ : b 6 = false) => (show w6.heap[gb270]? = some (.cells #[.int .u32 0, .int .i64 0] 34 (0, 0)) from by first | exact (blk_below (g := gb270) (o := .cells #[.int .u32 0, .int .i64 0] 34 (0, 0)) (by (with_reducible repeat (first | refine blk_drewN ?_ _ | refine blk_drew ?_ | refine blk_alloc ?_ _)); exact (Q_BK270 h0_ h1_)) hb))
   clear BK269
   clear HB
   have BK269 := n0_
   have HB := n1_
   have BK271 := n2_
   have GW271 := n3_
   have GE271 := n4_
   have NB269_271 := n5_
   have NB271_269 := n6_
   clear n0_ n1_ n2_ n3_ n4_ n5_ n6_
   clear hb hbox hg
   refine hK.out _ _ (by exact ⟨gb270, gb271, m4_, (.pointer (some ⟨gb271, 0, none⟩)), (by rw [ha.out]; exact putSel_upk 3 hb_ rfl rfl rfl), (by (with_reducible repeat (first | refine blk_drewN ?_ _ | refine blk_drew ?_ | refine blk_alloc ?_ _)); exact BK269.out), (by repeat (first | (with_reducible first | exact HB.out | apply below_alloc | apply pw_below_drewN | apply below_drew1 | refine below_set ?_ GE269.out | refine below_set ?_ GE271.out) | exact HB.out)), @z_NB271_270, @z_NB270_271, z_BK270, Q_GW270, Q_GE270, Q_NB269_270, Q_NB270_269, fun _ _ => (by (with_reducible repeat (first | refine blk_drewN ?_ _ | refine blk_drew ?_ | refine blk_alloc ?_ _)); exact BK271.out), fun _ => GW271.out, fun _ => GE271.out, fun _ => NB269_271.out, fun _ => NB271_269.out, fun h0_ => absurd ((hoff 6 (by kernel_rfl)).symm.trans h0_) (by decide), fun h0_ => absurd ((hoff 7 (by kernel_rfl)).symm.trans h0_) (by decide), Q_X4_, fun _ => rfl⟩)
  refine steps_cons ?_ ?_
  ·rintro b a w' ⟨gb270, gb271, m4_, m5_, ha, Q_BK269, Q_HB, Q_NB271_270, Q_NB270_271, Q_BK270, Q_GW270, Q_GE270, Q_NB269_270, Q_NB270_269, Q_BK271, Q_GW271, Q_GE271, Q_NB269_271, Q_NB271_269, Q_BK270_e6, Q_BK271_e7, Q_X4_, Q_X5_⟩ hb_ hon hoff
   refine ⟨_, rfl, fun K hK => ?_⟩
   have e5 : a.tmps[5]? = some (m4_) := by rw [ha]; exact putSel_on (e := (4, 5, m4_)) 2 rfl rfl (hon 4 (by kernel_rfl)) rfl
   rw [Q_X4_ (hon 4 (by kernel_rfl))] at e5
   have e9 : a.tmps[9]? = some (.agg #[.int .u32 a0_0, .int .i64 a0_1]) := by rw [ha]; exact putSel_on (e := (1, 9, .agg #[.int .u32 a0_0, .int .i64 a0_1])) 0 rfl rfl (hon 1 (by kernel_rfl)) rfl
   replace ha := Aside0.mk ha
   have BK269 := Aside0.mk Q_BK269
   have HB := Aside0.mk Q_HB
   have NB271_270 := Aside0.mk (Q_NB271_270 (hon 4 (by kernel_rfl)) (hon 5 (by kernel_rfl)))
   have NB270_271 := Aside0.mk (Q_NB270_271 (hon 4 (by kernel_rfl)) (hon 5 (by kernel_rfl)))
   have BK270 := Aside0.mk (Q_BK270 (hon 4 (by kernel_rfl)) hb_)
   have GW270 := Aside0.mk (Q_GW270 (hon 4 (by kernel_rfl)))
   have GE270 := Aside0.mk (Q_GE270 (hon 4 (by kernel_rfl)))
   have NB269_270 := Aside0.mk (Q_NB269_270 (hon 4 (by kernel_rfl)))
   have NB270_269 := Aside0.mk (Q_NB270_269 (hon 4 (by kernel_rfl)))
   have BK271 := Aside0.mk (Q_BK271 (hon 5 (by kernel_rfl)) (hoff 7 (by kernel_rfl)))
   have GW271 := Aside0.mk (Q_GW271 (hon 5 (by kernel_rfl)))
   have GE271 := Aside0.mk (Q_GE271 (hon 5 (by kernel_rfl)))
   have NB269_271 := Aside0.mk (Q_NB269_271 (hon 5 (by kernel_rfl)))
   have NB271_269 := Aside0.mk (Q_NB271_269 (hon 5 (by kernel_rfl)))
   have hs9 : w'.cell? ⟨gb270, 0, none⟩ = some (.int .u32 0) := (blk_cell BK270.out 0).trans rfl
   have hfs9 := blk_frozen BK270.out 0
   have hns9_0 := NB269_270.out
   have hns9_2 := NB271_270.out
   have hms9_0 := NB270_269.out
   have hms9_2 := NB270_271.out
   have hs10 : w'.cell? ⟨gb270, 1, none⟩ = some (.int .i64 0) := (blk_cell BK270.out 1).trans rfl
   have hfs10 := blk_frozen BK270.out 1
   have hns10_0 := NB269_270.out
   have hns10_2 := NB271_270.out
   have hms10_0 := NB270_269.out
   have hms10_2 := NB270_271.out
   refine skip_ (w1 := ?_) (by rfl) rfl ?_ ?_
   rotate_left
   ·go_simp
    rfl
   refine hK.out _ _ (by exact ⟨gb270, gb271, m4_, m5_, (by rw [ha.out]; exact putSel_none (v := undef) rfl), (by (with_reducible repeat (first | refine blk_drewN ?_ _ | refine blk_drew ?_ | refine blk_alloc ?_ _ | refine blk_far ?_ NB269_270.out _)); exact BK269.out), (by repeat (first | (with_reducible first | exact HB.out | apply below_alloc | apply pw_below_drewN | apply below_drew1 | refine below_set ?_ GE269.out | refine below_set ?_ GE270.out | refine below_set ?_ GE271.out) | exact HB.out)), fun _ _ => NB271_270.out, fun _ _ => NB270_271.out, fun _ h1_ => absurd ((up_self b 6).symm.trans h1_) (by decide), fun _ => GW270.out, fun _ => GE270.out, fun _ => NB269_270.out, fun _ => NB270_269.out, fun _ _ => (by (with_reducible repeat (first | refine blk_drewN ?_ _ | refine blk_drew ?_ | refine blk_alloc ?_ _ | refine blk_far ?_ NB271_270.out _)); exact BK271.out), fun _ => GW271.out, fun _ => GE271.out, fun _ => NB269_271.out, fun _ => NB271_269.out, fun _ => (by (with_reducible repeat (first | refine blk_drewN ?_ _ | refine blk_drew ?_ | refine blk_alloc ?_ _)); refine blk_put (cs := #[.int .u32 a0_0, .int .i64 0]) ?_ 1 _ rfl; (with_reducible repeat (first | refine blk_drewN ?_ _ | refine blk_drew ?_ | refine blk_alloc ?_ _)); refine blk_put (cs := #[.int .u32 0, .int .i64 0]) ?_ 0 _ rfl; (with_reducible repeat (first | refine blk_drewN ?_ _ | refine blk_drew ?_ | refine blk_alloc ?_ _)); exact BK270.out), fun h0_ => absurd ((hoff 7 (by kernel_rfl)).symm.trans h0_) (by decide), Q_X4_, Q_X5_⟩)
  refine steps_cons ?_ ?_
  ·rintro b a w' ⟨gb270, gb271, m4_, m5_, ha, Q_BK269, Q_HB, Q_NB271_270, Q_NB270_271, Q_BK270, Q_GW270, Q_GE270, Q_NB269_270, Q_NB270_269, Q_BK271, Q_GW271, Q_GE271, Q_NB269_271, Q_NB271_269, Q_BK270_e6, Q_BK271_e7, Q_X4_, Q_X5_⟩ hb_ hon hoff
   refine ⟨_, rfl, fun K hK => ?_⟩
   have e6 : a.tmps[6]? = some (m5_) := by rw [ha]; exact putSel_on (e := (5, 6, m5_)) 3 rfl rfl (hon 5 (by kernel_rfl)) rfl
   rw [Q_X5_ (hon 5 (by kernel_rfl))] at e6
   have e11 : a.tmps[11]? = some (.agg #[.int .u32 a0_2, .int .i64 a0_3]) := by rw [ha]; exact putSel_on (e := (3, 11, .agg #[.int .u32 a0_2, .int .i64 a0_3])) 1 rfl rfl (hon 3 (by kernel_rfl)) rfl
   replace ha := Aside0.mk ha
   have BK269 := Aside0.mk Q_BK269
   have HB := Aside0.mk Q_HB
   have NB271_270 := Aside0.mk (Q_NB271_270 (hon 4 (by kernel_rfl)) (hon 5 (by kernel_rfl)))
   have NB270_271 := Aside0.mk (Q_NB270_271 (hon 4 (by kernel_rfl)) (hon 5 (by kernel_rfl)))
   have GW270 := Aside0.mk (Q_GW270 (hon 4 (by kernel_rfl)))
   have GE270 := Aside0.mk (Q_GE270 (hon 4 (by kernel_rfl)))
   have NB269_270 := Aside0.mk (Q_NB269_270 (hon 4 (by kernel_rfl)))
   have NB270_269 := Aside0.mk (Q_NB270_269 (hon 4 (by kernel_rfl)))
   have BK271 := Aside0.mk (Q_BK271 (hon 5 (by kernel_rfl)) hb_)
   have GW271 := Aside0.mk (Q_GW271 (hon 5 (by kernel_rfl)))
   have GE271 := Aside0.mk (Q_GE271 (hon 5 (by kernel_rfl)))
   have NB269_271 := Aside0.mk (Q_NB269_271 (hon 5 (by kernel_rfl)))
   have NB271_269 := Aside0.mk (Q_NB271_269 (hon 5 (by kernel_rfl)))
   have BK270 := Aside0.mk (Q_BK270_e6 (hon 6 (by kernel_rfl)))
   have hs11 : w'.cell? ⟨gb271, 0, none⟩ = some (.int .u32 0) := (blk_cell BK271.out 0).trans rfl
   have hfs11 := blk_frozen BK271.out 0
   have hns11_0 := NB269_271.out
   have hns11_1 := NB270_271.out
   have hms11_0 := NB271_269.out
   have hms11_1 := NB271_270.out
   have hs12 : w'.cell? ⟨gb271, 1, none⟩ = some (.int .i64 0) := (blk_cell BK271.out 1).trans rfl
   have hfs12 := blk_frozen BK271.out 1
   have hns12_0 := NB269_271.out
   have hns12_1 := NB270_271.out
   have hms12_0 := NB271_269.out
   have hms12_1 := NB271_270.out
   refine skip_ (w1 := ?_) (by rfl) rfl ?_ ?_
   rotate_left
   ·go_simp
    rfl
   refine hK.out _ _ (by exact ⟨gb270, gb271, m4_, m5_, (by rw [ha.out]; exact putSel_none (v := undef) rfl), (by (with_reducible repeat (first | refine blk_drewN ?_ _ | refine blk_drew ?_ | refine blk_alloc ?_ _ | refine blk_far ?_ NB269_271.out _)); exact BK269.out), (by repeat (first | (with_reducible first | exact HB.out | apply below_alloc | apply pw_below_drewN | apply below_drew1 | refine below_set ?_ GE269.out | refine below_set ?_ GE270.out | refine below_set ?_ GE271.out) | exact HB.out)), fun _ _ => NB271_270.out, fun _ _ => NB270_271.out, fun _ h1_ => absurd ((hon 6 (by kernel_rfl)).symm.trans h1_) (by decide), fun _ => GW270.out, fun _ => GE270.out, fun _ => NB269_270.out, fun _ => NB270_269.out, fun _ h1_ => absurd ((up_self b 7).symm.trans h1_) (by decide), fun _ => GW271.out, fun _ => GE271.out, fun _ => NB269_271.out, fun _ => NB271_269.out, fun _ => (by (with_reducible repeat (first | refine blk_drewN ?_ _ | refine blk_drew ?_ | refine blk_alloc ?_ _ | refine blk_far ?_ NB270_271.out _)); exact BK270.out), fun _ => (by (with_reducible repeat (first | refine blk_drewN ?_ _ | refine blk_drew ?_ | refine blk_alloc ?_ _)); refine blk_put (cs := #[.int .u32 a0_2, .int .i64 0]) ?_ 1 _ rfl; (with_reducible repeat (first | refine blk_drewN ?_ _ | refine blk_drew ?_ | refine blk_alloc ?_ _)); refine blk_put (cs := #[.int .u32 0, .int .i64 0]) ?_ 0 _ rfl; (with_reducible repeat (first | refine blk_drewN ?_ _ | refine blk_drew ?_ | refine blk_alloc ?_ _)); exact BK271.out), Q_X4_, Q_X5_⟩)
  exact steps_nil
 rintro b a w12 hall ⟨gb270, gb271, m4_, m5_, ha, Q_BK269, Q_HB, Q_NB271_270, Q_NB270_271, Q_BK270, Q_GW270, Q_GE270, Q_NB269_270, Q_NB270_269, Q_BK271, Q_GW271, Q_GE271, Q_NB269_271, Q_NB271_269, Q_BK270_e6, Q_BK271_e7, Q_X4_, Q_X5_⟩
 clear BK269 HB
 have hb1_ := hall 1 (by kernel_rfl)
 have hb3_ := hall 3 (by kernel_rfl)
 have hb4_ := hall 4 (by kernel_rfl)
 have hb5_ := hall 5 (by kernel_rfl)
 have hb6_ := hall 6 (by kernel_rfl)
 have hb7_ := hall 7 (by kernel_rfl)
 subst ha
 obtain rfl := Q_X4_ hb4_
 obtain rfl := Q_X5_ hb5_
 simp only [putSel, hb1_, hb3_, hb4_, hb5_, hb6_, hb7_, if_true, Act.put, List.setIfInBounds_toArray, List.set_cons_zero, List.set_cons_succ]
 have BK269 := Aside0.mk Q_BK269
 clear Q_BK269
 have HB := Aside0.mk Q_HB
 clear Q_HB
 have NB271_270 := Aside0.mk (Q_NB271_270 hb4_ hb5_)
 clear Q_NB271_270
 have NB270_271 := Aside0.mk (Q_NB270_271 hb4_ hb5_)
 clear Q_NB270_271
 clear Q_BK270
 have GW270 := Aside0.mk (Q_GW270 hb4_)
 clear Q_GW270
 have GE270 := Aside0.mk (Q_GE270 hb4_)
 clear Q_GE270
 have NB269_270 := Aside0.mk (Q_NB269_270 hb4_)
 clear Q_NB269_270
 have NB270_269 := Aside0.mk (Q_NB270_269 hb4_)
 clear Q_NB270_269
 clear Q_BK271
 have GW271 := Aside0.mk (Q_GW271 hb5_)
 clear Q_GW271
 have GE271 := Aside0.mk (Q_GE271 hb5_)
 clear Q_GE271
 have NB269_271 := Aside0.mk (Q_NB269_271 hb5_)
 clear Q_NB269_271
 have NB271_269 := Aside0.mk (Q_NB271_269 hb5_)
 clear Q_NB271_269
 have BK270 := Aside0.mk (Q_BK270_e6 hb6_)
 clear Q_BK270_e6
 have BK271 := Aside0.mk (Q_BK271_e7 hb7_)
 clear Q_BK271_e7
 clear hall hb1_ hb3_ hb4_ hb5_ hb6_ hb7_
 go_upto_region 2 with (fail)
 go_cut [19] (fun v19 wc => ∃ (kq : Nat) (x19_2 : Bool), v19 = .bool x19_2 ∧ Aside0 (gangwaylaw02_AddrsNets.j0 kq a1 x19_2 a0_0 a0_1 a0_2 a0_3 = some r) ∧ Aside0 (kq ≤ k) ∧ Aside0 (wc.heap[gb269]? = some (.cells #[.int .u32 a0_0, .int .i64 a0_1, .int .u32 a0_2, .int .i64 a0_3] 36 (0, 0))) ∧ Aside0 (wc.heap[gb270]? = some (.cells #[.int .u32 a0_0, .int .i64 a0_1] 34 (0, 0))) ∧ Aside0 (wc.heap[gb271]? = some (.cells #[.int .u32 a0_2, .int .i64 a0_3] 34 (0, 0))) ∧ Aside0 (Below w.heap.size w wc))
 case first =>
  have H := HC3.out
  clear HC3
  replace H := Option.bind_eq_some_iff.mp H
  obtain ⟨t272, A130, H⟩ := H
  try dsimp only at H
  have A13 := Aside0.mk A130
  clear A130
  by_cases c14 : t272 = true
  ·subst c14
   rw [if_pos rfl] at H
   replace H := Option.bind_eq_some_iff.mp H
   obtain ⟨t273, A150, H⟩ := H
   try dsimp only at H
   have A15 := Aside0.mk A150
   clear A150
   have H' := Aside0.mk H
   clear H
   have hnb16 := NB270_269.out
   have hnc16 := NB269_270.out
   have hnb17 := NB270_271.out
   have hnc17 := NB271_270.out
   have hcz18_0 : w12.cell? ⟨gb270, 0, none⟩ = some (.int .u32 a0_0) := (blk_cell BK270.out 0).trans rfl
   have hcz18_1 : w12.cell? ⟨gb270, 1, none⟩ = some (.int .i64 a0_1) := (blk_cell BK270.out 1).trans rfl
   have hfz18_0 := blk_frozen BK270.out 0
   have hfz18_1 := blk_frozen BK270.out 1
   go_wp2_with (first | ((with_reducible refine gate_callee (f := 22) rfl ?_); refine goesL_ (some 13) rfl rfl Tryz.func22 (by kernel_rfl) rfl #[.agg #[.int .u32 a0_0, .int .i64 a0_1]] rfl (by (try simp only [List.map_toArray, List.map_cons, List.map_nil]); first | done | rfl | (simp only [List.length_drop, List.length_take]; rfl)) ?_; (with_reducible refine (addrs_Net.calls k a0_0 a0_1 true _ A13.out).mono ?_); rintro e w19 ⟨rfl, hb⟩; refine ⟨_, rfl, ?_⟩; replace BK269 := Aside0.mk (blk_below (g := gb269) (by (with_reducible repeat (first | refine blk_drewN ?_ _ | refine blk_drew ?_ | refine blk_alloc ?_ _)); exact BK269.out) hb); replace BK270 := Aside0.mk (blk_below (g := gb270) (by (with_reducible repeat (first | refine blk_drewN ?_ _ | refine blk_drew ?_ | refine blk_alloc ?_ _)); exact BK270.out) hb); replace BK271 := Aside0.mk (blk_below (g := gb271) (by (with_reducible repeat (first | refine blk_drewN ?_ _ | refine blk_drew ?_ | refine blk_alloc ?_ _)); exact BK271.out) hb); replace HB := Aside0.mk (below_step (by repeat (first | (with_reducible first | exact HB.out | apply below_alloc | apply pw_below_drewN | apply below_drew1 | refine below_set ?_ GE269.out | refine below_set ?_ GE270.out | refine below_set ?_ GE271.out) | exact HB.out)) hb); obtain ⟨hcy1_269_0, hcy1_269_1, hcy1_269_2, hcy1_269_3⟩ := cells4 BK269.out; (try clear hb); (try clear hb2); (try clear hk); (try clear hi); have hnb20 := NB271_269.out; have hnc20 := NB269_271.out; have hcz21_0 : w19.cell? ⟨gb271, 0, none⟩ = some (.int .u32 a0_2) := (blk_cell BK271.out 0).trans rfl; have hcz21_1 : w19.cell? ⟨gb271, 1, none⟩ = some (.int .i64 a0_3) := (blk_cell BK271.out 1).trans rfl; have hfz21_0 := blk_frozen BK271.out 0; have hfz21_1 := blk_frozen BK271.out 1) | (go_at_call 22; (with_reducible refine (addrs_Net.calls k a0_2 a0_3 t273 _ A15.out).mono ?_); rintro e w22 ⟨rfl, hb⟩; replace BK269 := Aside0.mk (blk_below (g := gb269) (by (with_reducible repeat (first | refine blk_drewN ?_ _ | refine blk_drew ?_ | refine blk_alloc ?_ _)); exact BK269.out) hb); replace BK270 := Aside0.mk (blk_below (g := gb270) (by (with_reducible repeat (first | refine blk_drewN ?_ _ | refine blk_drew ?_ | refine blk_alloc ?_ _)); exact BK270.out) hb); replace BK271 := Aside0.mk (blk_below (g := gb271) (by (with_reducible repeat (first | refine blk_drewN ?_ _ | refine blk_drew ?_ | refine blk_alloc ?_ _)); exact BK271.out) hb); replace HB := Aside0.mk (below_step (by repeat (first | (with_reducible first | exact HB.out | apply below_alloc | apply pw_below_drewN | apply below_drew1 | refine below_set ?_ GE269.out | refine below_set ?_ GE270.out | refine below_set ?_ GE271.out) | exact HB.out)) hb); obtain ⟨hcy2_269_0, hcy2_269_1, hcy2_269_2, hcy2_269_3⟩ := cells4 BK269.out; (try clear hb); (try clear hb2); (try clear hk); (try clear hi)))
   go_meet
   case rel => exact ⟨_, (!t273), (by first | rfl | (simp; done) | (simp [*]; done)), H', ⟨(by first | omega | exact Nat.le_refl _)⟩, ⟨(by (with_reducible repeat (first | refine blk_drewN ?_ _ | refine blk_drew ?_ | refine blk_alloc ?_ _)); exact BK269.out)⟩, ⟨(by (with_reducible repeat (first | refine blk_drewN ?_ _ | refine blk_drew ?_ | refine blk_alloc ?_ _)); exact BK270.out)⟩, ⟨(by (with_reducible repeat (first | refine blk_drewN ?_ _ | refine blk_drew ?_ | refine blk_alloc ?_ _)); exact BK271.out)⟩, ⟨(by repeat (first | (with_reducible first | exact HB.out | apply below_alloc | apply pw_below_drewN | apply below_drew1 | refine below_set ?_ GE269.out | refine below_set ?_ GE270.out | refine below_set ?_ GE271.out) | exact HB.out))⟩⟩
  ·replace c14 := Bool.eq_false_iff.mpr c14
   subst c14
   rw [if_neg (show ¬ (false = true) by decide)] at H
   have H' := Aside0.mk H
   clear H
   have hnb23 := NB270_269.out
   have hnc23 := NB269_270.out
   have hnb24 := NB270_271.out
   have hnc24 := NB271_270.out
   have hcz25_0 : w12.cell? ⟨gb270, 0, none⟩ = some (.int .u32 a0_0) := (blk_cell BK270.out 0).trans rfl
   have hcz25_1 : w12.cell? ⟨gb270, 1, none⟩ = some (.int .i64 a0_1) := (blk_cell BK270.out 1).trans rfl
   have hfz25_0 := blk_frozen BK270.out 0
   have hfz25_1 := blk_frozen BK270.out 1
   go_wp2_with (first | ((with_reducible refine gate_callee (f := 22) rfl ?_); refine goesL_ (some 13) rfl rfl Tryz.func22 (by kernel_rfl) rfl #[.agg #[.int .u32 a0_0, .int .i64 a0_1]] rfl (by (try simp only [List.map_toArray, List.map_cons, List.map_nil]); first | done | rfl | (simp only [List.length_drop, List.length_take]; rfl)) ?_; (with_reducible refine (addrs_Net.calls k a0_0 a0_1 false _ A13.out).mono ?_); rintro e w26 ⟨rfl, hb⟩; refine ⟨_, rfl, ?_⟩; replace BK269 := Aside0.mk (blk_below (g := gb269) (by (with_reducible repeat (first | refine blk_drewN ?_ _ | refine blk_drew ?_ | refine blk_alloc ?_ _)); exact BK269.out) hb); replace BK270 := Aside0.mk (blk_below (g := gb270) (by (with_reducible repeat (first | refine blk_drewN ?_ _ | refine blk_drew ?_ | refine blk_alloc ?_ _)); exact BK270.out) hb); replace BK271 := Aside0.mk (blk_below (g := gb271) (by (with_reducible repeat (first | refine blk_drewN ?_ _ | refine blk_drew ?_ | refine blk_alloc ?_ _)); exact BK271.out) hb); replace HB := Aside0.mk (below_step (by repeat (first | (with_reducible first | exact HB.out | apply below_alloc | apply pw_below_drewN | apply below_drew1 | refine below_set ?_ GE269.out | refine below_set ?_ GE270.out | refine below_set ?_ GE271.out) | exact HB.out)) hb); obtain ⟨hcy1_269_0, hcy1_269_1, hcy1_269_2, hcy1_269_3⟩ := cells4 BK269.out; (try clear hb); (try clear hb2); (try clear hk); (try clear hi)))
   go_meet
   case rel => exact ⟨_, (true), (by first | rfl | (simp; done) | (simp [*]; done)), H', ⟨(by first | omega | exact Nat.le_refl _)⟩, ⟨(by (with_reducible repeat (first | refine blk_drewN ?_ _ | refine blk_drew ?_ | refine blk_alloc ?_ _)); exact BK269.out)⟩, ⟨(by (with_reducible repeat (first | refine blk_drewN ?_ _ | refine blk_drew ?_ | refine blk_alloc ?_ _)); exact BK270.out)⟩, ⟨(by (with_reducible repeat (first | refine blk_drewN ?_ _ | refine blk_drew ?_ | refine blk_alloc ?_ _)); exact BK271.out)⟩, ⟨(by repeat (first | (with_reducible first | exact HB.out | apply below_alloc | apply pw_below_drewN | apply below_drew1 | refine below_set ?_ GE269.out | refine below_set ?_ GE270.out | refine below_set ?_ GE271.out) | exact HB.out))⟩⟩
 case rest =>
  clear HC3
  try clear c1
  try clear c2
  try clear p2
  try clear c3
  try clear c6
  try clear c14
  try clear c16
  try clear c17
  try clear c20
  try clear c22
  try clear c23
  try clear c24
  obtain ⟨kq, x19_2, rfl, HA, HJ2, BK269, BK270, BK271, HB⟩ := hcut
  cases kq with
  | zero => exact absurd HA.out (by simp [gangwaylaw02_AddrsNets.j0])
  | succ kj2 =>
   have H := HA.out
   clear HA
   simp only [gangwaylaw02_AddrsNets.j0] at H
   by_cases c27 : x19_2 = true
   ·subst c27
    rw [if_pos rfl] at H
    replace H := Option.bind_eq_some_iff.mp H
    obtain ⟨t274, A280, H⟩ := H
    try dsimp only at H
    have A28 := Aside0.mk A280
    clear A280
    by_cases c29 : t274 = true
    ·subst c29
     rw [if_pos rfl] at H
     exact absurd H (by simp)
    ·replace c29 := Bool.eq_false_iff.mpr c29
     subst c29
     rw [if_neg (show ¬ (false = true) by decide)] at H
     replace H := Option.bind_eq_some_iff.mp H
     obtain ⟨t275, A300, H⟩ := H
     try dsimp only at H
     have A30 := Aside0.mk A300
     clear A300
     by_cases c31 : t275 = true
     ·subst c31
      rw [if_pos rfl] at H
      exact absurd H (by simp)
     ·replace c31 := Bool.eq_false_iff.mpr c31
      subst c31
      rw [if_neg (show ¬ (false = true) by decide)] at H
      replace H := Option.bind_eq_some_iff.mp H
      obtain ⟨t276, A320, H⟩ := H
      try dsimp only at H
      have A32 := Aside0.mk A320
      clear A320
      obtain rfl := Option.some.inj H
      have hnb33 := NB270_269.out
      have hnc33 := NB269_270.out
      have hnb34 := NB270_271.out
      have hnc34 := NB271_270.out
      have hcz35_0 : wc.cell? ⟨gb270, 0, none⟩ = some (.int .u32 a0_0) := (blk_cell BK270.out 0).trans rfl
      have hcz35_1 : wc.cell? ⟨gb270, 1, none⟩ = some (.int .i64 a0_1) := (blk_cell BK270.out 1).trans rfl
      have hfz35_0 := blk_frozen BK270.out 0
      have hfz35_1 := blk_frozen BK270.out 1
      have hnb36 := NB271_269.out
      have hnc36 := NB269_271.out
      have hcz37_0 : wc.cell? ⟨gb271, 0, none⟩ = some (.int .u32 a0_2) := (blk_cell BK271.out 0).trans rfl
      have hcz37_1 : wc.cell? ⟨gb271, 1, none⟩ = some (.int .i64 a0_3) := (blk_cell BK271.out 1).trans rfl
      have hfz37_0 := blk_frozen BK271.out 0
      have hfz37_1 := blk_frozen BK271.out 1
      go_wp2_with (first | ((with_reducible refine gate_callee (f := 28) rfl ?_); refine goesL_ (some 22) rfl rfl Tryz.func28 (by kernel_rfl) rfl #[.agg #[.int .u32 a0_0, .int .i64 a0_1], .agg #[.int .u32 a0_2, .int .i64 a0_3]] rfl (by (try simp only [List.map_toArray, List.map_cons, List.map_nil]); first | done | rfl | (simp only [List.length_drop, List.length_take]; rfl)) ?_; (with_reducible refine (addrs_Near.calls kj2 a0_0 a0_1 a0_2 a0_3 false _ A28.out).mono ?_); rintro e w38 ⟨rfl, hb⟩; refine ⟨_, rfl, ?_⟩; replace BK269 := Aside0.mk (blk_below (g := gb269) (by (with_reducible repeat (first | refine blk_drewN ?_ _ | refine blk_drew ?_ | refine blk_alloc ?_ _)); exact BK269.out) hb); replace BK270 := Aside0.mk (blk_below (g := gb270) (by (with_reducible repeat (first | refine blk_drewN ?_ _ | refine blk_drew ?_ | refine blk_alloc ?_ _)); exact BK270.out) hb); replace BK271 := Aside0.mk (blk_below (g := gb271) (by (with_reducible repeat (first | refine blk_drewN ?_ _ | refine blk_drew ?_ | refine blk_alloc ?_ _)); exact BK271.out) hb); replace HB := Aside0.mk (below_step (by repeat (first | (with_reducible first | exact HB.out | apply below_alloc | apply pw_below_drewN | apply below_drew1 | refine below_set ?_ GE269.out | refine below_set ?_ GE270.out | refine below_set ?_ GE271.out) | exact HB.out)) hb); obtain ⟨hcy1_269_0, hcy1_269_1, hcy1_269_2, hcy1_269_3⟩ := cells4 BK269.out; (try clear hb); (try clear hb2); (try clear hk); (try clear hi); have hcz39_0 : w38.cell? ⟨gb271, 0, none⟩ = some (.int .u32 a0_2) := (blk_cell BK271.out 0).trans rfl; have hcz39_1 : w38.cell? ⟨gb271, 1, none⟩ = some (.int .i64 a0_3) := (blk_cell BK271.out 1).trans rfl; have hfz39_0 := blk_frozen BK271.out 0; have hfz39_1 := blk_frozen BK271.out 1; have hcz40_0 : w38.cell? ⟨gb270, 0, none⟩ = some (.int .u32 a0_0) := (blk_cell BK270.out 0).trans rfl; have hcz40_1 : w38.cell? ⟨gb270, 1, none⟩ = some (.int .i64 a0_1) := (blk_cell BK270.out 1).trans rfl; have hfz40_0 := blk_frozen BK270.out 0; have hfz40_1 := blk_frozen BK270.out 1) | (go_at_call 28; (with_reducible refine (addrs_Near.calls kj2 a0_2 a0_3 a0_0 a0_1 false _ A30.out).mono ?_); rintro e w41 ⟨rfl, hb⟩; replace BK269 := Aside0.mk (blk_below (g := gb269) (by (with_reducible repeat (first | refine blk_drewN ?_ _ | refine blk_drew ?_ | refine blk_alloc ?_ _)); exact BK269.out) hb); replace BK270 := Aside0.mk (blk_below (g := gb270) (by (with_reducible repeat (first | refine blk_drewN ?_ _ | refine blk_drew ?_ | refine blk_alloc ?_ _)); exact BK270.out) hb); replace BK271 := Aside0.mk (blk_below (g := gb271) (by (with_reducible repeat (first | refine blk_drewN ?_ _ | refine blk_drew ?_ | refine blk_alloc ?_ _)); exact BK271.out) hb); replace HB := Aside0.mk (below_step (by repeat (first | (with_reducible first | exact HB.out | apply below_alloc | apply pw_below_drewN | apply below_drew1 | refine below_set ?_ GE269.out | refine below_set ?_ GE270.out | refine below_set ?_ GE271.out) | exact HB.out)) hb); obtain ⟨hcy2_269_0, hcy2_269_1, hcy2_269_2, hcy2_269_3⟩ := cells4 BK269.out; (try clear hb); (try clear hb2); (try clear hk); (try clear hi)) | (go_at_call 13; (with_reducible refine (gangwaylaw02_fixed.calls kj2  t276 _ ?sideL A32.out).mono ?_); (case sideL => exact laid_below HLD.out (by repeat (first | (with_reducible first | exact HB.out | apply below_alloc | apply pw_below_drewN | apply below_drew1 | refine below_set ?_ GE269.out | refine below_set ?_ GE270.out | refine below_set ?_ GE271.out) | exact HB.out))); rintro e w42 ⟨rfl, hb⟩; replace BK269 := Aside0.mk (blk_below (g := gb269) (by (with_reducible repeat (first | refine blk_drewN ?_ _ | refine blk_drew ?_ | refine blk_alloc ?_ _)); exact BK269.out) hb); replace BK270 := Aside0.mk (blk_below (g := gb270) (by (with_reducible repeat (first | refine blk_drewN ?_ _ | refine blk_drew ?_ | refine blk_alloc ?_ _)); exact BK270.out) hb); replace BK271 := Aside0.mk (blk_below (g := gb271) (by (with_reducible repeat (first | refine blk_drewN ?_ _ | refine blk_drew ?_ | refine blk_alloc ?_ _)); exact BK271.out) hb); replace HB := Aside0.mk (below_step (by repeat (first | (with_reducible first | exact HB.out | apply below_alloc | apply pw_below_drewN | apply below_drew1 | refine below_set ?_ GE269.out | refine below_set ?_ GE270.out | refine below_set ?_ GE271.out) | exact HB.out)) hb); obtain ⟨hcy3_269_0, hcy3_269_1, hcy3_269_2, hcy3_269_3⟩ := cells4 BK269.out; (try clear hb); (try clear hb2); (try clear hk); (try clear hi)))
      go_ret
      exact ⟨(by first | rfl | (simp [errW_none, errW_some] <;> rfl) | (simp [*, errW_none, errW_some] <;> rfl) | (simp [*, IntKind.wrap_u32]; done) | (simp_all [IntKind.wrap_u32]; done)), (by repeat (first | (with_reducible first | exact HB.out | apply below_alloc | apply pw_below_drewN | apply below_drew1 | refine below_set ?_ GE269.out | refine below_set ?_ GE270.out | refine below_set ?_ GE271.out) | exact HB.out))⟩
   ·replace c27 := Bool.eq_false_iff.mpr c27
    subst c27
    rw [if_neg (show ¬ (false = true) by decide)] at H
    have HC43 := Aside0.mk H
    clear H
    go_upto_region 4 with (fail)
    go_cut [7] (fun v7 wc => ∃ (kq : Nat) (x7_42 : Bool), v7 = .bool x7_42 ∧ Aside0 (gangwaylaw02_AddrsNets.j1 kq a1 x7_42 a0_0 a0_1 a0_2 a0_3 = some r) ∧ Aside0 (kq ≤ kj2) ∧ Aside0 (wc.heap[gb269]? = some (.cells #[.int .u32 a0_0, .int .i64 a0_1, .int .u32 a0_2, .int .i64 a0_3] 36 (0, 0))) ∧ Aside0 (wc.heap[gb270]? = some (.cells #[.int .u32 a0_0, .int .i64 a0_1] 34 (0, 0))) ∧ Aside0 (wc.heap[gb271]? = some (.cells #[.int .u32 a0_2, .int .i64 a0_3] 34 (0, 0))) ∧ Aside0 (Below w.heap.size w wc))
    case first =>
     have H := HC43.out
     clear HC43
     replace H := Option.bind_eq_some_iff.mp H
     obtain ⟨t277, A440, H⟩ := H
     try dsimp only at H
     have A44 := Aside0.mk A440
     clear A440
     by_cases c45 : t277 = true
     ·subst c45
      rw [if_pos rfl] at H
      replace H := Option.bind_eq_some_iff.mp H
      obtain ⟨t278, A460, H⟩ := H
      try dsimp only at H
      have A46 := Aside0.mk A460
      clear A460
      have H' := Aside0.mk H
      clear H
      have hnb47 := NB270_269.out
      have hnc47 := NB269_270.out
      have hnb48 := NB270_271.out
      have hnc48 := NB271_270.out
      have hcz49_0 : wc.cell? ⟨gb270, 0, none⟩ = some (.int .u32 a0_0) := (blk_cell BK270.out 0).trans rfl
      have hcz49_1 : wc.cell? ⟨gb270, 1, none⟩ = some (.int .i64 a0_1) := (blk_cell BK270.out 1).trans rfl
      have hfz49_0 := blk_frozen BK270.out 0
      have hfz49_1 := blk_frozen BK270.out 1
      go_wp2_with (first | ((with_reducible refine gate_callee (f := 24) rfl ?_); refine goesL_ (some 35) rfl rfl Tryz.func24 (by kernel_rfl) rfl #[.agg #[.int .u32 a0_0, .int .i64 a0_1], .int .u32 a1] rfl (by (try simp only [List.map_toArray, List.map_cons, List.map_nil]); first | done | rfl | (simp only [List.length_drop, List.length_take]; rfl)) ?_; (with_reducible refine (addrs_In.calls kj2 a0_0 a0_1 a1 true _ A44.out).mono ?_); rintro e w50 ⟨rfl, hb⟩; refine ⟨_, rfl, ?_⟩; replace BK269 := Aside0.mk (blk_below (g := gb269) (by (with_reducible repeat (first | refine blk_drewN ?_ _ | refine blk_drew ?_ | refine blk_alloc ?_ _)); exact BK269.out) hb); replace BK270 := Aside0.mk (blk_below (g := gb270) (by (with_reducible repeat (first | refine blk_drewN ?_ _ | refine blk_drew ?_ | refine blk_alloc ?_ _)); exact BK270.out) hb); replace BK271 := Aside0.mk (blk_below (g := gb271) (by (with_reducible repeat (first | refine blk_drewN ?_ _ | refine blk_drew ?_ | refine blk_alloc ?_ _)); exact BK271.out) hb); replace HB := Aside0.mk (below_step (by repeat (first | (with_reducible first | exact HB.out | apply below_alloc | apply pw_below_drewN | apply below_drew1 | refine below_set ?_ GE269.out | refine below_set ?_ GE270.out | refine below_set ?_ GE271.out) | exact HB.out)) hb); obtain ⟨hcy1_269_0, hcy1_269_1, hcy1_269_2, hcy1_269_3⟩ := cells4 BK269.out; (try clear hb); (try clear hb2); (try clear hk); (try clear hi); have hnb51 := NB271_269.out; have hnc51 := NB269_271.out; have hcz52_0 : w50.cell? ⟨gb271, 0, none⟩ = some (.int .u32 a0_2) := (blk_cell BK271.out 0).trans rfl; have hcz52_1 : w50.cell? ⟨gb271, 1, none⟩ = some (.int .i64 a0_3) := (blk_cell BK271.out 1).trans rfl; have hfz52_0 := blk_frozen BK271.out 0; have hfz52_1 := blk_frozen BK271.out 1) | (go_at_call 24; (with_reducible refine (addrs_In.calls kj2 a0_2 a0_3 a1 t278 _ A46.out).mono ?_); rintro e w53 ⟨rfl, hb⟩; replace BK269 := Aside0.mk (blk_below (g := gb269) (by (with_reducible repeat (first | refine blk_drewN ?_ _ | refine blk_drew ?_ | refine blk_alloc ?_ _)); exact BK269.out) hb); replace BK270 := Aside0.mk (blk_below (g := gb270) (by (with_reducible repeat (first | refine blk_drewN ?_ _ | refine blk_drew ?_ | refine blk_alloc ?_ _)); exact BK270.out) hb); replace BK271 := Aside0.mk (blk_below (g := gb271) (by (with_reducible repeat (first | refine blk_drewN ?_ _ | refine blk_drew ?_ | refine blk_alloc ?_ _)); exact BK271.out) hb); replace HB := Aside0.mk (below_step (by repeat (first | (with_reducible first | exact HB.out | apply below_alloc | apply pw_below_drewN | apply below_drew1 | refine below_set ?_ GE269.out | refine below_set ?_ GE270.out | refine below_set ?_ GE271.out) | exact HB.out)) hb); obtain ⟨hcy2_269_0, hcy2_269_1, hcy2_269_2, hcy2_269_3⟩ := cells4 BK269.out; (try clear hb); (try clear hb2); (try clear hk); (try clear hi)))
      go_meet
      case rel => exact ⟨_, (t278), (by first | rfl | (simp; done) | (simp [*]; done)), H', ⟨(by have := HJ2.out; first | omega | exact Nat.le_refl _)⟩, ⟨(by (with_reducible repeat (first | refine blk_drewN ?_ _ | refine blk_drew ?_ | refine blk_alloc ?_ _)); exact BK269.out)⟩, ⟨(by (with_reducible repeat (first | refine blk_drewN ?_ _ | refine blk_drew ?_ | refine blk_alloc ?_ _)); exact BK270.out)⟩, ⟨(by (with_reducible repeat (first | refine blk_drewN ?_ _ | refine blk_drew ?_ | refine blk_alloc ?_ _)); exact BK271.out)⟩, ⟨(by repeat (first | (with_reducible first | exact HB.out | apply below_alloc | apply pw_below_drewN | apply below_drew1 | refine below_set ?_ GE269.out | refine below_set ?_ GE270.out | refine below_set ?_ GE271.out) | exact HB.out))⟩⟩
     ·replace c45 := Bool.eq_false_iff.mpr c45
      subst c45
      rw [if_neg (show ¬ (false = true) by decide)] at H
      have H' := Aside0.mk H
      clear H
      have hnb54 := NB270_269.out
      have hnc54 := NB269_270.out
      have hnb55 := NB270_271.out
      have hnc55 := NB271_270.out
      have hcz56_0 : wc.cell? ⟨gb270, 0, none⟩ = some (.int .u32 a0_0) := (blk_cell BK270.out 0).trans rfl
      have hcz56_1 : wc.cell? ⟨gb270, 1, none⟩ = some (.int .i64 a0_1) := (blk_cell BK270.out 1).trans rfl
      have hfz56_0 := blk_frozen BK270.out 0
      have hfz56_1 := blk_frozen BK270.out 1
      go_wp2_with (first | ((with_reducible refine gate_callee (f := 24) rfl ?_); refine goesL_ (some 35) rfl rfl Tryz.func24 (by kernel_rfl) rfl #[.agg #[.int .u32 a0_0, .int .i64 a0_1], .int .u32 a1] rfl (by (try simp only [List.map_toArray, List.map_cons, List.map_nil]); first | done | rfl | (simp only [List.length_drop, List.length_take]; rfl)) ?_; (with_reducible refine (addrs_In.calls kj2 a0_0 a0_1 a1 false _ A44.out).mono ?_); rintro e w57 ⟨rfl, hb⟩; refine ⟨_, rfl, ?_⟩; replace BK269 := Aside0.mk (blk_below (g := gb269) (by (with_reducible repeat (first | refine blk_drewN ?_ _ | refine blk_drew ?_ | refine blk_alloc ?_ _)); exact BK269.out) hb); replace BK270 := Aside0.mk (blk_below (g := gb270) (by (with_reducible repeat (first | refine blk_drewN ?_ _ | refine blk_drew ?_ | refine blk_alloc ?_ _)); exact BK270.out) hb); replace BK271 := Aside0.mk (blk_below (g := gb271) (by (with_reducible repeat (first | refine blk_drewN ?_ _ | refine blk_drew ?_ | refine blk_alloc ?_ _)); exact BK271.out) hb); replace HB := Aside0.mk (below_step (by repeat (first | (with_reducible first | exact HB.out | apply below_alloc | apply pw_below_drewN | apply below_drew1 | refine below_set ?_ GE269.out | refine below_set ?_ GE270.out | refine below_set ?_ GE271.out) | exact HB.out)) hb); obtain ⟨hcy1_269_0, hcy1_269_1, hcy1_269_2, hcy1_269_3⟩ := cells4 BK269.out; (try clear hb); (try clear hb2); (try clear hk); (try clear hi)))
      go_meet
      case rel => exact ⟨_, (false), (by first | rfl | (simp; done) | (simp [*]; done)), H', ⟨(by have := HJ2.out; first | omega | exact Nat.le_refl _)⟩, ⟨(by (with_reducible repeat (first | refine blk_drewN ?_ _ | refine blk_drew ?_ | refine blk_alloc ?_ _)); exact BK269.out)⟩, ⟨(by (with_reducible repeat (first | refine blk_drewN ?_ _ | refine blk_drew ?_ | refine blk_alloc ?_ _)); exact BK270.out)⟩, ⟨(by (with_reducible repeat (first | refine blk_drewN ?_ _ | refine blk_drew ?_ | refine blk_alloc ?_ _)); exact BK271.out)⟩, ⟨(by repeat (first | (with_reducible first | exact HB.out | apply below_alloc | apply pw_below_drewN | apply below_drew1 | refine below_set ?_ GE269.out | refine below_set ?_ GE270.out | refine below_set ?_ GE271.out) | exact HB.out))⟩⟩
    case rest =>
     clear HC43
     try clear c1
     try clear c2
     try clear p2
     try clear c3
     try clear c4
     try clear c5
     try clear c6
     try clear c14
     try clear c16
     try clear c17
     try clear c20
     try clear c22
     try clear c23
     try clear c24
     try clear c27
     try clear c28
     try clear c29
     try clear c31
     try clear c33
     try clear c34
     try clear c36
     try clear c45
     try clear c47
     try clear c48
     try clear c51
     try clear c54
     try clear c55
     try clear p2
     obtain ⟨kq, x7_42, rfl, HA, HJ42, BK269, BK270, BK271, HB⟩ := hcut
     cases kq with
     | zero => exact absurd HA.out (by simp [gangwaylaw02_AddrsNets.j1])
     | succ kj42 =>
      have H := HA.out
      clear HA
      simp only [gangwaylaw02_AddrsNets.j1] at H
      have HC58 := Aside0.mk H
      clear H
      go_upto_region 5 with (fail)
      go_cut [69] (fun v69 wc => ∃ (kq : Nat) (x69_57 : Bool), v69 = .bool x69_57 ∧ Aside0 (gangwaylaw02_AddrsNets.j2 kq a1 x69_57 a0_0 a0_1 a0_2 a0_3 = some r) ∧ Aside0 (kq ≤ kj42) ∧ Aside0 (wc.heap[gb269]? = some (.cells #[.int .u32 a0_0, .int .i64 a0_1, .int .u32 a0_2, .int .i64 a0_3] 36 (0, 0))) ∧ Aside0 (wc.heap[gb270]? = some (.cells #[.int .u32 a0_0, .int .i64 a0_1] 34 (0, 0))) ∧ Aside0 (wc.heap[gb271]? = some (.cells #[.int .u32 a0_2, .int .i64 a0_3] 34 (0, 0))) ∧ Aside0 (Below w.heap.size w wc))
      case first =>
       have H := HC58.out
       clear HC58
       by_cases c59 : x7_42 = true
       ·subst c59
        rw [if_pos rfl] at H
        replace H := Option.bind_eq_some_iff.mp H
        obtain ⟨t279, A600, H⟩ := H
        try dsimp only at H
        have A60 := Aside0.mk A600
        clear A600
        by_cases c61 : t279 = true
        ·subst c61
         rw [if_pos rfl] at H
         replace H := Option.bind_eq_some_iff.mp H
         obtain ⟨t280, A620, H⟩ := H
         try dsimp only at H
         have A62 := Aside0.mk A620
         clear A620
         by_cases c63 : t280 = true
         ·subst c63
          rw [if_pos rfl] at H
          replace H := Option.bind_eq_some_iff.mp H
          obtain ⟨t281, A640, H⟩ := H
          try dsimp only at H
          have A64 := Aside0.mk A640
          clear A640
          by_cases c65 : t281 = true
          ·subst c65
           rw [if_pos rfl] at H
           replace H := Option.bind_eq_some_iff.mp H
           obtain ⟨t282, A660, H⟩ := H
           try dsimp only at H
           have A66 := Aside0.mk A660
           clear A660
           have H' := Aside0.mk H
           clear H
           have hnb67 := NB270_269.out
           have hnc67 := NB269_270.out
           have hnb68 := NB270_271.out
           have hnc68 := NB271_270.out
           have hcz69_0 : wc.cell? ⟨gb270, 0, none⟩ = some (.int .u32 a0_0) := (blk_cell BK270.out 0).trans rfl
           have hcz69_1 : wc.cell? ⟨gb270, 1, none⟩ = some (.int .i64 a0_1) := (blk_cell BK270.out 1).trans rfl
           have hfz69_0 := blk_frozen BK270.out 0
           have hfz69_1 := blk_frozen BK270.out 1
           have hnb70 := NB271_269.out
           have hnc70 := NB269_271.out
           have hcz71_0 : wc.cell? ⟨gb271, 0, none⟩ = some (.int .u32 a0_2) := (blk_cell BK271.out 0).trans rfl
           have hcz71_1 : wc.cell? ⟨gb271, 1, none⟩ = some (.int .i64 a0_3) := (blk_cell BK271.out 1).trans rfl
           have hfz71_0 := blk_frozen BK271.out 0
           have hfz71_1 := blk_frozen BK271.out 1
           go_wp2_with (first | (go_at_call 28; (with_reducible refine (addrs_Near.calls kj42 a0_0 a0_1 a0_2 a0_3 true _ A60.out).mono ?_); rintro e w72 ⟨rfl, hb⟩; replace BK269 := Aside0.mk (blk_below (g := gb269) (by (with_reducible repeat (first | refine blk_drewN ?_ _ | refine blk_drew ?_ | refine blk_alloc ?_ _)); exact BK269.out) hb); replace BK270 := Aside0.mk (blk_below (g := gb270) (by (with_reducible repeat (first | refine blk_drewN ?_ _ | refine blk_drew ?_ | refine blk_alloc ?_ _)); exact BK270.out) hb); replace BK271 := Aside0.mk (blk_below (g := gb271) (by (with_reducible repeat (first | refine blk_drewN ?_ _ | refine blk_drew ?_ | refine blk_alloc ?_ _)); exact BK271.out) hb); replace HB := Aside0.mk (below_step (by repeat (first | (with_reducible first | exact HB.out | apply below_alloc | apply pw_below_drewN | apply below_drew1 | refine below_set ?_ GE269.out | refine below_set ?_ GE270.out | refine below_set ?_ GE271.out) | exact HB.out)) hb); obtain ⟨hcy1_269_0, hcy1_269_1, hcy1_269_2, hcy1_269_3⟩ := cells4 BK269.out; (try clear hb); (try clear hb2); (try clear hk); (try clear hi); have hcz73_0 : w72.cell? ⟨gb270, 0, none⟩ = some (.int .u32 a0_0) := (blk_cell BK270.out 0).trans rfl; have hcz73_1 : w72.cell? ⟨gb270, 1, none⟩ = some (.int .i64 a0_1) := (blk_cell BK270.out 1).trans rfl; have hfz73_0 := blk_frozen BK270.out 0; have hfz73_1 := blk_frozen BK270.out 1; have hcz74_0 : w72.cell? ⟨gb271, 0, none⟩ = some (.int .u32 a0_2) := (blk_cell BK271.out 0).trans rfl; have hcz74_1 : w72.cell? ⟨gb271, 1, none⟩ = some (.int .i64 a0_3) := (blk_cell BK271.out 1).trans rfl; have hfz74_0 := blk_frozen BK271.out 0; have hfz74_1 := blk_frozen BK271.out 1) | (go_at_call 28; (with_reducible refine (addrs_Near.calls kj42 a0_0 a0_1 a0_2 a0_3 true _ A62.out).mono ?_); rintro e w75 ⟨rfl, hb⟩; replace BK269 := Aside0.mk (blk_below (g := gb269) (by (with_reducible repeat (first | refine blk_drewN ?_ _ | refine blk_drew ?_ | refine blk_alloc ?_ _)); exact BK269.out) hb); replace BK270 := Aside0.mk (blk_below (g := gb270) (by (with_reducible repeat (first | refine blk_drewN ?_ _ | refine blk_drew ?_ | refine blk_alloc ?_ _)); exact BK270.out) hb); replace BK271 := Aside0.mk (blk_below (g := gb271) (by (with_reducible repeat (first | refine blk_drewN ?_ _ | refine blk_drew ?_ | refine blk_alloc ?_ _)); exact BK271.out) hb); replace HB := Aside0.mk (below_step (by repeat (first | (with_reducible first | exact HB.out | apply below_alloc | apply pw_below_drewN | apply below_drew1 | refine below_set ?_ GE269.out | refine below_set ?_ GE270.out | refine below_set ?_ GE271.out) | exact HB.out)) hb); obtain ⟨hcy2_269_0, hcy2_269_1, hcy2_269_2, hcy2_269_3⟩ := cells4 BK269.out; (try clear hb); (try clear hb2); (try clear hk); (try clear hi); have hcz76_0 : w75.cell? ⟨gb270, 0, none⟩ = some (.int .u32 a0_0) := (blk_cell BK270.out 0).trans rfl; have hcz76_1 : w75.cell? ⟨gb270, 1, none⟩ = some (.int .i64 a0_1) := (blk_cell BK270.out 1).trans rfl; have hfz76_0 := blk_frozen BK270.out 0; have hfz76_1 := blk_frozen BK270.out 1) | (go_at_call 24; (with_reducible refine (addrs_In.calls kj42 a0_0 a0_1 a1 true _ A64.out).mono ?_); rintro e w77 ⟨rfl, hb⟩; replace BK269 := Aside0.mk (blk_below (g := gb269) (by (with_reducible repeat (first | refine blk_drewN ?_ _ | refine blk_drew ?_ | refine blk_alloc ?_ _)); exact BK269.out) hb); replace BK270 := Aside0.mk (blk_below (g := gb270) (by (with_reducible repeat (first | refine blk_drewN ?_ _ | refine blk_drew ?_ | refine blk_alloc ?_ _)); exact BK270.out) hb); replace BK271 := Aside0.mk (blk_below (g := gb271) (by (with_reducible repeat (first | refine blk_drewN ?_ _ | refine blk_drew ?_ | refine blk_alloc ?_ _)); exact BK271.out) hb); replace HB := Aside0.mk (below_step (by repeat (first | (with_reducible first | exact HB.out | apply below_alloc | apply pw_below_drewN | apply below_drew1 | refine below_set ?_ GE269.out | refine below_set ?_ GE270.out | refine below_set ?_ GE271.out) | exact HB.out)) hb); obtain ⟨hcy3_269_0, hcy3_269_1, hcy3_269_2, hcy3_269_3⟩ := cells4 BK269.out; (try clear hb); (try clear hb2); (try clear hk); (try clear hi); have hcz78_0 : w77.cell? ⟨gb271, 0, none⟩ = some (.int .u32 a0_2) := (blk_cell BK271.out 0).trans rfl; have hcz78_1 : w77.cell? ⟨gb271, 1, none⟩ = some (.int .i64 a0_3) := (blk_cell BK271.out 1).trans rfl; have hfz78_0 := blk_frozen BK271.out 0; have hfz78_1 := blk_frozen BK271.out 1) | (go_at_call 24; (with_reducible refine (addrs_In.calls kj42 a0_2 a0_3 a1 t282 _ A66.out).mono ?_); rintro e w79 ⟨rfl, hb⟩; replace BK269 := Aside0.mk (blk_below (g := gb269) (by (with_reducible repeat (first | refine blk_drewN ?_ _ | refine blk_drew ?_ | refine blk_alloc ?_ _)); exact BK269.out) hb); replace BK270 := Aside0.mk (blk_below (g := gb270) (by (with_reducible repeat (first | refine blk_drewN ?_ _ | refine blk_drew ?_ | refine blk_alloc ?_ _)); exact BK270.out) hb); replace BK271 := Aside0.mk (blk_below (g := gb271) (by (with_reducible repeat (first | refine blk_drewN ?_ _ | refine blk_drew ?_ | refine blk_alloc ?_ _)); exact BK271.out) hb); replace HB := Aside0.mk (below_step (by repeat (first | (with_reducible first | exact HB.out | apply below_alloc | apply pw_below_drewN | apply below_drew1 | refine below_set ?_ GE269.out | refine below_set ?_ GE270.out | refine below_set ?_ GE271.out) | exact HB.out)) hb); obtain ⟨hcy4_269_0, hcy4_269_1, hcy4_269_2, hcy4_269_3⟩ := cells4 BK269.out; (try clear hb); (try clear hb2); (try clear hk); (try clear hi)))
           go_meet
           case rel => exact ⟨_, (!t282), (by first | rfl | (simp; done) | (simp [*]; done)), H', ⟨(by have := HJ2.out; have := HJ42.out; first | omega | exact Nat.le_refl _)⟩, ⟨(by (with_reducible repeat (first | refine blk_drewN ?_ _ | refine blk_drew ?_ | refine blk_alloc ?_ _)); exact BK269.out)⟩, ⟨(by (with_reducible repeat (first | refine blk_drewN ?_ _ | refine blk_drew ?_ | refine blk_alloc ?_ _)); exact BK270.out)⟩, ⟨(by (with_reducible repeat (first | refine blk_drewN ?_ _ | refine blk_drew ?_ | refine blk_alloc ?_ _)); exact BK271.out)⟩, ⟨(by repeat (first | (with_reducible first | exact HB.out | apply below_alloc | apply pw_below_drewN | apply below_drew1 | refine below_set ?_ GE269.out | refine below_set ?_ GE270.out | refine below_set ?_ GE271.out) | exact HB.out))⟩⟩
          ·replace c65 := Bool.eq_false_iff.mpr c65
           subst c65
           rw [if_neg (show ¬ (false = true) by decide)] at H
           have H' := Aside0.mk H
           clear H
           have hnb80 := NB270_269.out
           have hnc80 := NB269_270.out
           have hnb81 := NB270_271.out
           have hnc81 := NB271_270.out
           have hcz82_0 : wc.cell? ⟨gb270, 0, none⟩ = some (.int .u32 a0_0) := (blk_cell BK270.out 0).trans rfl
           have hcz82_1 : wc.cell? ⟨gb270, 1, none⟩ = some (.int .i64 a0_1) := (blk_cell BK270.out 1).trans rfl
           have hfz82_0 := blk_frozen BK270.out 0
           have hfz82_1 := blk_frozen BK270.out 1
           have hnb83 := NB271_269.out
           have hnc83 := NB269_271.out
           have hcz84_0 : wc.cell? ⟨gb271, 0, none⟩ = some (.int .u32 a0_2) := (blk_cell BK271.out 0).trans rfl
           have hcz84_1 : wc.cell? ⟨gb271, 1, none⟩ = some (.int .i64 a0_3) := (blk_cell BK271.out 1).trans rfl
           have hfz84_0 := blk_frozen BK271.out 0
           have hfz84_1 := blk_frozen BK271.out 1
           go_wp2_with (first | (go_at_call 28; (with_reducible refine (addrs_Near.calls kj42 a0_0 a0_1 a0_2 a0_3 true _ A60.out).mono ?_); rintro e w85 ⟨rfl, hb⟩; replace BK269 := Aside0.mk (blk_below (g := gb269) (by (with_reducible repeat (first | refine blk_drewN ?_ _ | refine blk_drew ?_ | refine blk_alloc ?_ _)); exact BK269.out) hb); replace BK270 := Aside0.mk (blk_below (g := gb270) (by (with_reducible repeat (first | refine blk_drewN ?_ _ | refine blk_drew ?_ | refine blk_alloc ?_ _)); exact BK270.out) hb); replace BK271 := Aside0.mk (blk_below (g := gb271) (by (with_reducible repeat (first | refine blk_drewN ?_ _ | refine blk_drew ?_ | refine blk_alloc ?_ _)); exact BK271.out) hb); replace HB := Aside0.mk (below_step (by repeat (first | (with_reducible first | exact HB.out | apply below_alloc | apply pw_below_drewN | apply below_drew1 | refine below_set ?_ GE269.out | refine below_set ?_ GE270.out | refine below_set ?_ GE271.out) | exact HB.out)) hb); obtain ⟨hcy1_269_0, hcy1_269_1, hcy1_269_2, hcy1_269_3⟩ := cells4 BK269.out; (try clear hb); (try clear hb2); (try clear hk); (try clear hi); have hcz86_0 : w85.cell? ⟨gb270, 0, none⟩ = some (.int .u32 a0_0) := (blk_cell BK270.out 0).trans rfl; have hcz86_1 : w85.cell? ⟨gb270, 1, none⟩ = some (.int .i64 a0_1) := (blk_cell BK270.out 1).trans rfl; have hfz86_0 := blk_frozen BK270.out 0; have hfz86_1 := blk_frozen BK270.out 1; have hcz87_0 : w85.cell? ⟨gb271, 0, none⟩ = some (.int .u32 a0_2) := (blk_cell BK271.out 0).trans rfl; have hcz87_1 : w85.cell? ⟨gb271, 1, none⟩ = some (.int .i64 a0_3) := (blk_cell BK271.out 1).trans rfl; have hfz87_0 := blk_frozen BK271.out 0; have hfz87_1 := blk_frozen BK271.out 1) | (go_at_call 28; (with_reducible refine (addrs_Near.calls kj42 a0_0 a0_1 a0_2 a0_3 true _ A62.out).mono ?_); rintro e w88 ⟨rfl, hb⟩; replace BK269 := Aside0.mk (blk_below (g := gb269) (by (with_reducible repeat (first | refine blk_drewN ?_ _ | refine blk_drew ?_ | refine blk_alloc ?_ _)); exact BK269.out) hb); replace BK270 := Aside0.mk (blk_below (g := gb270) (by (with_reducible repeat (first | refine blk_drewN ?_ _ | refine blk_drew ?_ | refine blk_alloc ?_ _)); exact BK270.out) hb); replace BK271 := Aside0.mk (blk_below (g := gb271) (by (with_reducible repeat (first | refine blk_drewN ?_ _ | refine blk_drew ?_ | refine blk_alloc ?_ _)); exact BK271.out) hb); replace HB := Aside0.mk (below_step (by repeat (first | (with_reducible first | exact HB.out | apply below_alloc | apply pw_below_drewN | apply below_drew1 | refine below_set ?_ GE269.out | refine below_set ?_ GE270.out | refine below_set ?_ GE271.out) | exact HB.out)) hb); obtain ⟨hcy2_269_0, hcy2_269_1, hcy2_269_2, hcy2_269_3⟩ := cells4 BK269.out; (try clear hb); (try clear hb2); (try clear hk); (try clear hi); have hcz89_0 : w88.cell? ⟨gb270, 0, none⟩ = some (.int .u32 a0_0) := (blk_cell BK270.out 0).trans rfl; have hcz89_1 : w88.cell? ⟨gb270, 1, none⟩ = some (.int .i64 a0_1) := (blk_cell BK270.out 1).trans rfl; have hfz89_0 := blk_frozen BK270.out 0; have hfz89_1 := blk_frozen BK270.out 1) | (go_at_call 24; (with_reducible refine (addrs_In.calls kj42 a0_0 a0_1 a1 false _ A64.out).mono ?_); rintro e w90 ⟨rfl, hb⟩; replace BK269 := Aside0.mk (blk_below (g := gb269) (by (with_reducible repeat (first | refine blk_drewN ?_ _ | refine blk_drew ?_ | refine blk_alloc ?_ _)); exact BK269.out) hb); replace BK270 := Aside0.mk (blk_below (g := gb270) (by (with_reducible repeat (first | refine blk_drewN ?_ _ | refine blk_drew ?_ | refine blk_alloc ?_ _)); exact BK270.out) hb); replace BK271 := Aside0.mk (blk_below (g := gb271) (by (with_reducible repeat (first | refine blk_drewN ?_ _ | refine blk_drew ?_ | refine blk_alloc ?_ _)); exact BK271.out) hb); replace HB := Aside0.mk (below_step (by repeat (first | (with_reducible first | exact HB.out | apply below_alloc | apply pw_below_drewN | apply below_drew1 | refine below_set ?_ GE269.out | refine below_set ?_ GE270.out | refine below_set ?_ GE271.out) | exact HB.out)) hb); obtain ⟨hcy3_269_0, hcy3_269_1, hcy3_269_2, hcy3_269_3⟩ := cells4 BK269.out; (try clear hb); (try clear hb2); (try clear hk); (try clear hi)))
           go_meet
           case rel => exact ⟨_, (false), (by first | rfl | (simp; done) | (simp [*]; done)), H', ⟨(by have := HJ2.out; have := HJ42.out; first | omega | exact Nat.le_refl _)⟩, ⟨(by (with_reducible repeat (first | refine blk_drewN ?_ _ | refine blk_drew ?_ | refine blk_alloc ?_ _)); exact BK269.out)⟩, ⟨(by (with_reducible repeat (first | refine blk_drewN ?_ _ | refine blk_drew ?_ | refine blk_alloc ?_ _)); exact BK270.out)⟩, ⟨(by (with_reducible repeat (first | refine blk_drewN ?_ _ | refine blk_drew ?_ | refine blk_alloc ?_ _)); exact BK271.out)⟩, ⟨(by repeat (first | (with_reducible first | exact HB.out | apply below_alloc | apply pw_below_drewN | apply below_drew1 | refine below_set ?_ GE269.out | refine below_set ?_ GE270.out | refine below_set ?_ GE271.out) | exact HB.out))⟩⟩
         ·replace c63 := Bool.eq_false_iff.mpr c63
          subst c63
          rw [if_neg (show ¬ (false = true) by decide)] at H
          have H' := Aside0.mk H
          clear H
          have hnb91 := NB270_269.out
          have hnc91 := NB269_270.out
          have hnb92 := NB270_271.out
          have hnc92 := NB271_270.out
          have hcz93_0 : wc.cell? ⟨gb270, 0, none⟩ = some (.int .u32 a0_0) := (blk_cell BK270.out 0).trans rfl
          have hcz93_1 : wc.cell? ⟨gb270, 1, none⟩ = some (.int .i64 a0_1) := (blk_cell BK270.out 1).trans rfl
          have hfz93_0 := blk_frozen BK270.out 0
          have hfz93_1 := blk_frozen BK270.out 1
          have hnb94 := NB271_269.out
          have hnc94 := NB269_271.out
          have hcz95_0 : wc.cell? ⟨gb271, 0, none⟩ = some (.int .u32 a0_2) := (blk_cell BK271.out 0).trans rfl
          have hcz95_1 : wc.cell? ⟨gb271, 1, none⟩ = some (.int .i64 a0_3) := (blk_cell BK271.out 1).trans rfl
          have hfz95_0 := blk_frozen BK271.out 0
          have hfz95_1 := blk_frozen BK271.out 1
          exact absurd (A60.out.symm.trans A62.out) (by decide)
        ·replace c61 := Bool.eq_false_iff.mpr c61
         subst c61
         rw [if_neg (show ¬ (false = true) by decide)] at H
         replace H := Option.bind_eq_some_iff.mp H
         obtain ⟨t283, A1000, H⟩ := H
         try dsimp only at H
         have A100 := Aside0.mk A1000
         clear A1000
         by_cases c101 : t283 = true
         ·subst c101
          rw [if_pos rfl] at H
          replace H := Option.bind_eq_some_iff.mp H
          obtain ⟨t284, A1020, H⟩ := H
          try dsimp only at H
          have A102 := Aside0.mk A1020
          clear A1020
          by_cases c103 : t284 = true
          ·subst c103
           rw [if_pos rfl] at H
           replace H := Option.bind_eq_some_iff.mp H
           obtain ⟨t285, A1040, H⟩ := H
           try dsimp only at H
           have A104 := Aside0.mk A1040
           clear A1040
           by_cases c105 : t285 = true
           ·subst c105
            rw [if_pos rfl] at H
            replace H := Option.bind_eq_some_iff.mp H
            obtain ⟨t286, A1060, H⟩ := H
            try dsimp only at H
            have A106 := Aside0.mk A1060
            clear A1060
            exact z32_1
           ·replace c105 := Bool.eq_false_iff.mpr c105
            subst c105
            rw [if_neg (show ¬ (false = true) by decide)] at H
            exact z32_1
          ·replace c103 := Bool.eq_false_iff.mpr c103
           subst c103
           rw [if_neg (show ¬ (false = true) by decide)] at H
           have H' := Aside0.mk H
           clear H
           have hnb137 := NB270_269.out
           have hnc137 := NB269_270.out
           have hnb138 := NB270_271.out
           have hnc138 := NB271_270.out
           have hcz139_0 : wc.cell? ⟨gb270, 0, none⟩ = some (.int .u32 a0_0) := (blk_cell BK270.out 0).trans rfl
           have hcz139_1 : wc.cell? ⟨gb270, 1, none⟩ = some (.int .i64 a0_1) := (blk_cell BK270.out 1).trans rfl
           have hfz139_0 := blk_frozen BK270.out 0
           have hfz139_1 := blk_frozen BK270.out 1
           have hnb140 := NB271_269.out
           have hnc140 := NB269_271.out
           have hcz141_0 : wc.cell? ⟨gb271, 0, none⟩ = some (.int .u32 a0_2) := (blk_cell BK271.out 0).trans rfl
           have hcz141_1 : wc.cell? ⟨gb271, 1, none⟩ = some (.int .i64 a0_3) := (blk_cell BK271.out 1).trans rfl
           have hfz141_0 := blk_frozen BK271.out 0
           have hfz141_1 := blk_frozen BK271.out 1
           go_wp2_with (first | (go_at_call 28; (with_reducible refine (addrs_Near.calls kj42 a0_0 a0_1 a0_2 a0_3 false _ A60.out).mono ?_); rintro e w142 ⟨rfl, hb⟩; replace BK269 := Aside0.mk (blk_below (g := gb269) (by (with_reducible repeat (first | refine blk_drewN ?_ _ | refine blk_drew ?_ | refine blk_alloc ?_ _)); exact BK269.out) hb); replace BK270 := Aside0.mk (blk_below (g := gb270) (by (with_reducible repeat (first | refine blk_drewN ?_ _ | refine blk_drew ?_ | refine blk_alloc ?_ _)); exact BK270.out) hb); replace BK271 := Aside0.mk (blk_below (g := gb271) (by (with_reducible repeat (first | refine blk_drewN ?_ _ | refine blk_drew ?_ | refine blk_alloc ?_ _)); exact BK271.out) hb); replace HB := Aside0.mk (below_step (by repeat (first | (with_reducible first | exact HB.out | apply below_alloc | apply pw_below_drewN | apply below_drew1 | refine below_set ?_ GE269.out | refine below_set ?_ GE270.out | refine below_set ?_ GE271.out) | exact HB.out)) hb); obtain ⟨hcy1_269_0, hcy1_269_1, hcy1_269_2, hcy1_269_3⟩ := cells4 BK269.out; (try clear hb); (try clear hb2); (try clear hk); (try clear hi); have hcz143_0 : w142.cell? ⟨gb271, 0, none⟩ = some (.int .u32 a0_2) := (blk_cell BK271.out 0).trans rfl; have hcz143_1 : w142.cell? ⟨gb271, 1, none⟩ = some (.int .i64 a0_3) := (blk_cell BK271.out 1).trans rfl; have hfz143_0 := blk_frozen BK271.out 0; have hfz143_1 := blk_frozen BK271.out 1; have hcz144_0 : w142.cell? ⟨gb270, 0, none⟩ = some (.int .u32 a0_0) := (blk_cell BK270.out 0).trans rfl; have hcz144_1 : w142.cell? ⟨gb270, 1, none⟩ = some (.int .i64 a0_1) := (blk_cell BK270.out 1).trans rfl; have hfz144_0 := blk_frozen BK270.out 0; have hfz144_1 := blk_frozen BK270.out 1) | (go_at_call 28; (with_reducible refine (addrs_Near.calls kj42 a0_2 a0_3 a0_0 a0_1 true _ A100.out).mono ?_); rintro e w145 ⟨rfl, hb⟩; replace BK269 := Aside0.mk (blk_below (g := gb269) (by (with_reducible repeat (first | refine blk_drewN ?_ _ | refine blk_drew ?_ | refine blk_alloc ?_ _)); exact BK269.out) hb); replace BK270 := Aside0.mk (blk_below (g := gb270) (by (with_reducible repeat (first | refine blk_drewN ?_ _ | refine blk_drew ?_ | refine blk_alloc ?_ _)); exact BK270.out) hb); replace BK271 := Aside0.mk (blk_below (g := gb271) (by (with_reducible repeat (first | refine blk_drewN ?_ _ | refine blk_drew ?_ | refine blk_alloc ?_ _)); exact BK271.out) hb); replace HB := Aside0.mk (below_step (by repeat (first | (with_reducible first | exact HB.out | apply below_alloc | apply pw_below_drewN | apply below_drew1 | refine below_set ?_ GE269.out | refine below_set ?_ GE270.out | refine below_set ?_ GE271.out) | exact HB.out)) hb); obtain ⟨hcy2_269_0, hcy2_269_1, hcy2_269_2, hcy2_269_3⟩ := cells4 BK269.out; (try clear hb); (try clear hb2); (try clear hk); (try clear hi); have hcz146_0 : w145.cell? ⟨gb270, 0, none⟩ = some (.int .u32 a0_0) := (blk_cell BK270.out 0).trans rfl; have hcz146_1 : w145.cell? ⟨gb270, 1, none⟩ = some (.int .i64 a0_1) := (blk_cell BK270.out 1).trans rfl; have hfz146_0 := blk_frozen BK270.out 0; have hfz146_1 := blk_frozen BK270.out 1; have hcz147_0 : w145.cell? ⟨gb271, 0, none⟩ = some (.int .u32 a0_2) := (blk_cell BK271.out 0).trans rfl; have hcz147_1 : w145.cell? ⟨gb271, 1, none⟩ = some (.int .i64 a0_3) := (blk_cell BK271.out 1).trans rfl; have hfz147_0 := blk_frozen BK271.out 0; have hfz147_1 := blk_frozen BK271.out 1) | (go_at_call 28; (with_reducible refine (addrs_Near.calls kj42 a0_0 a0_1 a0_2 a0_3 false _ A102.out).mono ?_); rintro e w148 ⟨rfl, hb⟩; replace BK269 := Aside0.mk (blk_below (g := gb269) (by (with_reducible repeat (first | refine blk_drewN ?_ _ | refine blk_drew ?_ | refine blk_alloc ?_ _)); exact BK269.out) hb); replace BK270 := Aside0.mk (blk_below (g := gb270) (by (with_reducible repeat (first | refine blk_drewN ?_ _ | refine blk_drew ?_ | refine blk_alloc ?_ _)); exact BK270.out) hb); replace BK271 := Aside0.mk (blk_below (g := gb271) (by (with_reducible repeat (first | refine blk_drewN ?_ _ | refine blk_drew ?_ | refine blk_alloc ?_ _)); exact BK271.out) hb); replace HB := Aside0.mk (below_step (by repeat (first | (with_reducible first | exact HB.out | apply below_alloc | apply pw_below_drewN | apply below_drew1 | refine below_set ?_ GE269.out | refine below_set ?_ GE270.out | refine below_set ?_ GE271.out) | exact HB.out)) hb); obtain ⟨hcy3_269_0, hcy3_269_1, hcy3_269_2, hcy3_269_3⟩ := cells4 BK269.out; (try clear hb); (try clear hb2); (try clear hk); (try clear hi)))
           go_meet
           case rel => exact ⟨_, (false), (by first | rfl | (simp; done) | (simp [*]; done)), H', ⟨(by have := HJ2.out; have := HJ42.out; first | omega | exact Nat.le_refl _)⟩, ⟨(by (with_reducible repeat (first | refine blk_drewN ?_ _ | refine blk_drew ?_ | refine blk_alloc ?_ _)); exact BK269.out)⟩, ⟨(by (with_reducible repeat (first | refine blk_drewN ?_ _ | refine blk_drew ?_ | refine blk_alloc ?_ _)); exact BK270.out)⟩, ⟨(by (with_reducible repeat (first | refine blk_drewN ?_ _ | refine blk_drew ?_ | refine blk_alloc ?_ _)); exact BK271.out)⟩, ⟨(by repeat (first | (with_reducible first | exact HB.out | apply below_alloc | apply pw_below_drewN | apply below_drew1 | refine below_set ?_ GE269.out | refine below_set ?_ GE270.out | refine below_set ?_ GE271.out) | exact HB.out))⟩⟩
         ·replace c101 := Bool.eq_false_iff.mpr c101
          subst c101
          rw [if_neg (show ¬ (false = true) by decide)] at H
          have H' := Aside0.mk H
          clear H
          have hnb149 := NB270_269.out
          have hnc149 := NB269_270.out
          have hnb150 := NB270_271.out
          have hnc150 := NB271_270.out
          have hcz151_0 : wc.cell? ⟨gb270, 0, none⟩ = some (.int .u32 a0_0) := (blk_cell BK270.out 0).trans rfl
          have hcz151_1 : wc.cell? ⟨gb270, 1, none⟩ = some (.int .i64 a0_1) := (blk_cell BK270.out 1).trans rfl
          have hfz151_0 := blk_frozen BK270.out 0
          have hfz151_1 := blk_frozen BK270.out 1
          have hnb152 := NB271_269.out
          have hnc152 := NB269_271.out
          have hcz153_0 : wc.cell? ⟨gb271, 0, none⟩ = some (.int .u32 a0_2) := (blk_cell BK271.out 0).trans rfl
          have hcz153_1 : wc.cell? ⟨gb271, 1, none⟩ = some (.int .i64 a0_3) := (blk_cell BK271.out 1).trans rfl
          have hfz153_0 := blk_frozen BK271.out 0
          have hfz153_1 := blk_frozen BK271.out 1
          go_wp2_with (first | (go_at_call 28; (with_reducible refine (addrs_Near.calls kj42 a0_0 a0_1 a0_2 a0_3 false _ A60.out).mono ?_); rintro e w154 ⟨rfl, hb⟩; replace BK269 := Aside0.mk (blk_below (g := gb269) (by (with_reducible repeat (first | refine blk_drewN ?_ _ | refine blk_drew ?_ | refine blk_alloc ?_ _)); exact BK269.out) hb); replace BK270 := Aside0.mk (blk_below (g := gb270) (by (with_reducible repeat (first | refine blk_drewN ?_ _ | refine blk_drew ?_ | refine blk_alloc ?_ _)); exact BK270.out) hb); replace BK271 := Aside0.mk (blk_below (g := gb271) (by (with_reducible repeat (first | refine blk_drewN ?_ _ | refine blk_drew ?_ | refine blk_alloc ?_ _)); exact BK271.out) hb); replace HB := Aside0.mk (below_step (by repeat (first | (with_reducible first | exact HB.out | apply below_alloc | apply pw_below_drewN | apply below_drew1 | refine below_set ?_ GE269.out | refine below_set ?_ GE270.out | refine below_set ?_ GE271.out) | exact HB.out)) hb); obtain ⟨hcy1_269_0, hcy1_269_1, hcy1_269_2, hcy1_269_3⟩ := cells4 BK269.out; (try clear hb); (try clear hb2); (try clear hk); (try clear hi); have hcz155_0 : w154.cell? ⟨gb271, 0, none⟩ = some (.int .u32 a0_2) := (blk_cell BK271.out 0).trans rfl; have hcz155_1 : w154.cell? ⟨gb271, 1, none⟩ = some (.int .i64 a0_3) := (blk_cell BK271.out 1).trans rfl; have hfz155_0 := blk_frozen BK271.out 0; have hfz155_1 := blk_frozen BK271.out 1; have hcz156_0 : w154.cell? ⟨gb270, 0, none⟩ = some (.int .u32 a0_0) := (blk_cell BK270.out 0).trans rfl; have hcz156_1 : w154.cell? ⟨gb270, 1, none⟩ = some (.int .i64 a0_1) := (blk_cell BK270.out 1).trans rfl; have hfz156_0 := blk_frozen BK270.out 0; have hfz156_1 := blk_frozen BK270.out 1) | (go_at_call 28; (with_reducible refine (addrs_Near.calls kj42 a0_2 a0_3 a0_0 a0_1 false _ A100.out).mono ?_); rintro e w157 ⟨rfl, hb⟩; replace BK269 := Aside0.mk (blk_below (g := gb269) (by (with_reducible repeat (first | refine blk_drewN ?_ _ | refine blk_drew ?_ | refine blk_alloc ?_ _)); exact BK269.out) hb); replace BK270 := Aside0.mk (blk_below (g := gb270) (by (with_reducible repeat (first | refine blk_drewN ?_ _ | refine blk_drew ?_ | refine blk_alloc ?_ _)); exact BK270.out) hb); replace BK271 := Aside0.mk (blk_below (g := gb271) (by (with_reducible repeat (first | refine blk_drewN ?_ _ | refine blk_drew ?_ | refine blk_alloc ?_ _)); exact BK271.out) hb); replace HB := Aside0.mk (below_step (by repeat (first | (with_reducible first | exact HB.out | apply below_alloc | apply pw_below_drewN | apply below_drew1 | refine below_set ?_ GE269.out | refine below_set ?_ GE270.out | refine below_set ?_ GE271.out) | exact HB.out)) hb); obtain ⟨hcy2_269_0, hcy2_269_1, hcy2_269_2, hcy2_269_3⟩ := cells4 BK269.out; (try clear hb); (try clear hb2); (try clear hk); (try clear hi)))
          go_meet
          case rel => exact ⟨_, (true), (by first | rfl | (simp; done) | (simp [*]; done)), H', ⟨(by have := HJ2.out; have := HJ42.out; first | omega | exact Nat.le_refl _)⟩, ⟨(by (with_reducible repeat (first | refine blk_drewN ?_ _ | refine blk_drew ?_ | refine blk_alloc ?_ _)); exact BK269.out)⟩, ⟨(by (with_reducible repeat (first | refine blk_drewN ?_ _ | refine blk_drew ?_ | refine blk_alloc ?_ _)); exact BK270.out)⟩, ⟨(by (with_reducible repeat (first | refine blk_drewN ?_ _ | refine blk_drew ?_ | refine blk_alloc ?_ _)); exact BK271.out)⟩, ⟨(by repeat (first | (with_reducible first | exact HB.out | apply below_alloc | apply pw_below_drewN | apply below_drew1 | refine below_set ?_ GE269.out | refine below_set ?_ GE270.out | refine below_set ?_ GE271.out) | exact HB.out))⟩⟩
       ·replace c59 := Bool.eq_false_iff.mpr c59
        subst c59
        rw [if_neg (show ¬ (false = true) by decide)] at H
        replace H := Option.bind_eq_some_iff.mp H
        obtain ⟨t287, A1580, H⟩ := H
        try dsimp only at H
        have A158 := Aside0.mk A1580
        clear A1580
        by_cases c159 : t287 = true
        ·subst c159
         rw [if_pos rfl] at H
         replace H := Option.bind_eq_some_iff.mp H
         obtain ⟨t288, A1600, H⟩ := H
         try dsimp only at H
         have A160 := Aside0.mk A1600
         clear A1600
         by_cases c161 : t288 = true
         ·subst c161
          rw [if_pos rfl] at H
          replace H := Option.bind_eq_some_iff.mp H
          obtain ⟨t289, A1620, H⟩ := H
          try dsimp only at H
          have A162 := Aside0.mk A1620
          clear A1620
          have H' := Aside0.mk H
          clear H
          have hnb163 := NB270_269.out
          have hnc163 := NB269_270.out
          have hnb164 := NB270_271.out
          have hnc164 := NB271_270.out
          have hcz165_0 : wc.cell? ⟨gb270, 0, none⟩ = some (.int .u32 a0_0) := (blk_cell BK270.out 0).trans rfl
          have hcz165_1 : wc.cell? ⟨gb270, 1, none⟩ = some (.int .i64 a0_1) := (blk_cell BK270.out 1).trans rfl
          have hfz165_0 := blk_frozen BK270.out 0
          have hfz165_1 := blk_frozen BK270.out 1
          have hnb166 := NB271_269.out
          have hnc166 := NB269_271.out
          have hcz167_0 : wc.cell? ⟨gb271, 0, none⟩ = some (.int .u32 a0_2) := (blk_cell BK271.out 0).trans rfl
          have hcz167_1 : wc.cell? ⟨gb271, 1, none⟩ = some (.int .i64 a0_3) := (blk_cell BK271.out 1).trans rfl
          have hfz167_0 := blk_frozen BK271.out 0
          have hfz167_1 := blk_frozen BK271.out 1
          go_wp2_with (first | (go_at_call 28; (with_reducible refine (addrs_Near.calls kj42 a0_0 a0_1 a0_2 a0_3 true _ A158.out).mono ?_); rintro e w168 ⟨rfl, hb⟩; replace BK269 := Aside0.mk (blk_below (g := gb269) (by (with_reducible repeat (first | refine blk_drewN ?_ _ | refine blk_drew ?_ | refine blk_alloc ?_ _)); exact BK269.out) hb); replace BK270 := Aside0.mk (blk_below (g := gb270) (by (with_reducible repeat (first | refine blk_drewN ?_ _ | refine blk_drew ?_ | refine blk_alloc ?_ _)); exact BK270.out) hb); replace BK271 := Aside0.mk (blk_below (g := gb271) (by (with_reducible repeat (first | refine blk_drewN ?_ _ | refine blk_drew ?_ | refine blk_alloc ?_ _)); exact BK271.out) hb); replace HB := Aside0.mk (below_step (by repeat (first | (with_reducible first | exact HB.out | apply below_alloc | apply pw_below_drewN | apply below_drew1 | refine below_set ?_ GE269.out | refine below_set ?_ GE270.out | refine below_set ?_ GE271.out) | exact HB.out)) hb); obtain ⟨hcy1_269_0, hcy1_269_1, hcy1_269_2, hcy1_269_3⟩ := cells4 BK269.out; (try clear hb); (try clear hb2); (try clear hk); (try clear hi); have hcz169_0 : w168.cell? ⟨gb270, 0, none⟩ = some (.int .u32 a0_0) := (blk_cell BK270.out 0).trans rfl; have hcz169_1 : w168.cell? ⟨gb270, 1, none⟩ = some (.int .i64 a0_1) := (blk_cell BK270.out 1).trans rfl; have hfz169_0 := blk_frozen BK270.out 0; have hfz169_1 := blk_frozen BK270.out 1) | (go_at_call 24; (with_reducible refine (addrs_In.calls kj42 a0_0 a0_1 a1 true _ A160.out).mono ?_); rintro e w170 ⟨rfl, hb⟩; replace BK269 := Aside0.mk (blk_below (g := gb269) (by (with_reducible repeat (first | refine blk_drewN ?_ _ | refine blk_drew ?_ | refine blk_alloc ?_ _)); exact BK269.out) hb); replace BK270 := Aside0.mk (blk_below (g := gb270) (by (with_reducible repeat (first | refine blk_drewN ?_ _ | refine blk_drew ?_ | refine blk_alloc ?_ _)); exact BK270.out) hb); replace BK271 := Aside0.mk (blk_below (g := gb271) (by (with_reducible repeat (first | refine blk_drewN ?_ _ | refine blk_drew ?_ | refine blk_alloc ?_ _)); exact BK271.out) hb); replace HB := Aside0.mk (below_step (by repeat (first | (with_reducible first | exact HB.out | apply below_alloc | apply pw_below_drewN | apply below_drew1 | refine below_set ?_ GE269.out | refine below_set ?_ GE270.out | refine below_set ?_ GE271.out) | exact HB.out)) hb); obtain ⟨hcy2_269_0, hcy2_269_1, hcy2_269_2, hcy2_269_3⟩ := cells4 BK269.out; (try clear hb); (try clear hb2); (try clear hk); (try clear hi); have hcz171_0 : w170.cell? ⟨gb271, 0, none⟩ = some (.int .u32 a0_2) := (blk_cell BK271.out 0).trans rfl; have hcz171_1 : w170.cell? ⟨gb271, 1, none⟩ = some (.int .i64 a0_3) := (blk_cell BK271.out 1).trans rfl; have hfz171_0 := blk_frozen BK271.out 0; have hfz171_1 := blk_frozen BK271.out 1) | (go_at_call 24; (with_reducible refine (addrs_In.calls kj42 a0_2 a0_3 a1 t289 _ A162.out).mono ?_); rintro e w172 ⟨rfl, hb⟩; replace BK269 := Aside0.mk (blk_below (g := gb269) (by (with_reducible repeat (first | refine blk_drewN ?_ _ | refine blk_drew ?_ | refine blk_alloc ?_ _)); exact BK269.out) hb); replace BK270 := Aside0.mk (blk_below (g := gb270) (by (with_reducible repeat (first | refine blk_drewN ?_ _ | refine blk_drew ?_ | refine blk_alloc ?_ _)); exact BK270.out) hb); replace BK271 := Aside0.mk (blk_below (g := gb271) (by (with_reducible repeat (first | refine blk_drewN ?_ _ | refine blk_drew ?_ | refine blk_alloc ?_ _)); exact BK271.out) hb); replace HB := Aside0.mk (below_step (by repeat (first | (with_reducible first | exact HB.out | apply below_alloc | apply pw_below_drewN | apply below_drew1 | refine below_set ?_ GE269.out | refine below_set ?_ GE270.out | refine below_set ?_ GE271.out) | exact HB.out)) hb); obtain ⟨hcy3_269_0, hcy3_269_1, hcy3_269_2, hcy3_269_3⟩ := cells4 BK269.out; (try clear hb); (try clear hb2); (try clear hk); (try clear hi)))
          go_meet
          case rel => exact ⟨_, (!t289), (by first | rfl | (simp; done) | (simp [*]; done)), H', ⟨(by have := HJ2.out; have := HJ42.out; first | omega | exact Nat.le_refl _)⟩, ⟨(by (with_reducible repeat (first | refine blk_drewN ?_ _ | refine blk_drew ?_ | refine blk_alloc ?_ _)); exact BK269.out)⟩, ⟨(by (with_reducible repeat (first | refine blk_drewN ?_ _ | refine blk_drew ?_ | refine blk_alloc ?_ _)); exact BK270.out)⟩, ⟨(by (with_reducible repeat (first | refine blk_drewN ?_ _ | refine blk_drew ?_ | refine blk_alloc ?_ _)); exact BK271.out)⟩, ⟨(by repeat (first | (with_reducible first | exact HB.out | apply below_alloc | apply pw_below_drewN | apply below_drew1 | refine below_set ?_ GE269.out | refine below_set ?_ GE270.out | refine below_set ?_ GE271.out) | exact HB.out))⟩⟩
         ·replace c161 := Bool.eq_false_iff.mpr c161
          subst c161
          rw [if_neg (show ¬ (false = true) by decide)] at H
          have H' := Aside0.mk H
          clear H
          have hnb173 := NB270_269.out
          have hnc173 := NB269_270.out
          have hnb174 := NB270_271.out
          have hnc174 := NB271_270.out
          have hcz175_0 : wc.cell? ⟨gb270, 0, none⟩ = some (.int .u32 a0_0) := (blk_cell BK270.out 0).trans rfl
          have hcz175_1 : wc.cell? ⟨gb270, 1, none⟩ = some (.int .i64 a0_1) := (blk_cell BK270.out 1).trans rfl
          have hfz175_0 := blk_frozen BK270.out 0
          have hfz175_1 := blk_frozen BK270.out 1
          have hnb176 := NB271_269.out
          have hnc176 := NB269_271.out
          have hcz177_0 : wc.cell? ⟨gb271, 0, none⟩ = some (.int .u32 a0_2) := (blk_cell BK271.out 0).trans rfl
          have hcz177_1 : wc.cell? ⟨gb271, 1, none⟩ = some (.int .i64 a0_3) := (blk_cell BK271.out 1).trans rfl
          have hfz177_0 := blk_frozen BK271.out 0
          have hfz177_1 := blk_frozen BK271.out 1
          go_wp2_with (first | (go_at_call 28; (with_reducible refine (addrs_Near.calls kj42 a0_0 a0_1 a0_2 a0_3 true _ A158.out).mono ?_); rintro e w178 ⟨rfl, hb⟩; replace BK269 := Aside0.mk (blk_below (g := gb269) (by (with_reducible repeat (first | refine blk_drewN ?_ _ | refine blk_drew ?_ | refine blk_alloc ?_ _)); exact BK269.out) hb); replace BK270 := Aside0.mk (blk_below (g := gb270) (by (with_reducible repeat (first | refine blk_drewN ?_ _ | refine blk_drew ?_ | refine blk_alloc ?_ _)); exact BK270.out) hb); replace BK271 := Aside0.mk (blk_below (g := gb271) (by (with_reducible repeat (first | refine blk_drewN ?_ _ | refine blk_drew ?_ | refine blk_alloc ?_ _)); exact BK271.out) hb); replace HB := Aside0.mk (below_step (by repeat (first | (with_reducible first | exact HB.out | apply below_alloc | apply pw_below_drewN | apply below_drew1 | refine below_set ?_ GE269.out | refine below_set ?_ GE270.out | refine below_set ?_ GE271.out) | exact HB.out)) hb); obtain ⟨hcy1_269_0, hcy1_269_1, hcy1_269_2, hcy1_269_3⟩ := cells4 BK269.out; (try clear hb); (try clear hb2); (try clear hk); (try clear hi); have hcz179_0 : w178.cell? ⟨gb270, 0, none⟩ = some (.int .u32 a0_0) := (blk_cell BK270.out 0).trans rfl; have hcz179_1 : w178.cell? ⟨gb270, 1, none⟩ = some (.int .i64 a0_1) := (blk_cell BK270.out 1).trans rfl; have hfz179_0 := blk_frozen BK270.out 0; have hfz179_1 := blk_frozen BK270.out 1) | (go_at_call 24; (with_reducible refine (addrs_In.calls kj42 a0_0 a0_1 a1 false _ A160.out).mono ?_); rintro e w180 ⟨rfl, hb⟩; replace BK269 := Aside0.mk (blk_below (g := gb269) (by (with_reducible repeat (first | refine blk_drewN ?_ _ | refine blk_drew ?_ | refine blk_alloc ?_ _)); exact BK269.out) hb); replace BK270 := Aside0.mk (blk_below (g := gb270) (by (with_reducible repeat (first | refine blk_drewN ?_ _ | refine blk_drew ?_ | refine blk_alloc ?_ _)); exact BK270.out) hb); replace BK271 := Aside0.mk (blk_below (g := gb271) (by (with_reducible repeat (first | refine blk_drewN ?_ _ | refine blk_drew ?_ | refine blk_alloc ?_ _)); exact BK271.out) hb); replace HB := Aside0.mk (below_step (by repeat (first | (with_reducible first | exact HB.out | apply below_alloc | apply pw_below_drewN | apply below_drew1 | refine below_set ?_ GE269.out | refine below_set ?_ GE270.out | refine below_set ?_ GE271.out) | exact HB.out)) hb); obtain ⟨hcy2_269_0, hcy2_269_1, hcy2_269_2, hcy2_269_3⟩ := cells4 BK269.out; (try clear hb); (try clear hb2); (try clear hk); (try clear hi)))
          go_meet
          case rel => exact ⟨_, (false), (by first | rfl | (simp; done) | (simp [*]; done)), H', ⟨(by have := HJ2.out; have := HJ42.out; first | omega | exact Nat.le_refl _)⟩, ⟨(by (with_reducible repeat (first | refine blk_drewN ?_ _ | refine blk_drew ?_ | refine blk_alloc ?_ _)); exact BK269.out)⟩, ⟨(by (with_reducible repeat (first | refine blk_drewN ?_ _ | refine blk_drew ?_ | refine blk_alloc ?_ _)); exact BK270.out)⟩, ⟨(by (with_reducible repeat (first | refine blk_drewN ?_ _ | refine blk_drew ?_ | refine blk_alloc ?_ _)); exact BK271.out)⟩, ⟨(by repeat (first | (with_reducible first | exact HB.out | apply below_alloc | apply pw_below_drewN | apply below_drew1 | refine below_set ?_ GE269.out | refine below_set ?_ GE270.out | refine below_set ?_ GE271.out) | exact HB.out))⟩⟩
        ·replace c159 := Bool.eq_false_iff.mpr c159
         subst c159
         rw [if_neg (show ¬ (false = true) by decide)] at H
         have H' := Aside0.mk H
         clear H
         have hnb181 := NB270_269.out
         have hnc181 := NB269_270.out
         have hnb182 := NB270_271.out
         have hnc182 := NB271_270.out
         have hcz183_0 : wc.cell? ⟨gb270, 0, none⟩ = some (.int .u32 a0_0) := (blk_cell BK270.out 0).trans rfl
         have hcz183_1 : wc.cell? ⟨gb270, 1, none⟩ = some (.int .i64 a0_1) := (blk_cell BK270.out 1).trans rfl
         have hfz183_0 := blk_frozen BK270.out 0
         have hfz183_1 := blk_frozen BK270.out 1
         have hnb184 := NB271_269.out
         have hnc184 := NB269_271.out
         have hcz185_0 : wc.cell? ⟨gb271, 0, none⟩ = some (.int .u32 a0_2) := (blk_cell BK271.out 0).trans rfl
         have hcz185_1 : wc.cell? ⟨gb271, 1, none⟩ = some (.int .i64 a0_3) := (blk_cell BK271.out 1).trans rfl
         have hfz185_0 := blk_frozen BK271.out 0
         have hfz185_1 := blk_frozen BK271.out 1
         go_wp2_with (first | (go_at_call 28; (with_reducible refine (addrs_Near.calls kj42 a0_0 a0_1 a0_2 a0_3 false _ A158.out).mono ?_); rintro e w186 ⟨rfl, hb⟩; replace BK269 := Aside0.mk (blk_below (g := gb269) (by (with_reducible repeat (first | refine blk_drewN ?_ _ | refine blk_drew ?_ | refine blk_alloc ?_ _)); exact BK269.out) hb); replace BK270 := Aside0.mk (blk_below (g := gb270) (by (with_reducible repeat (first | refine blk_drewN ?_ _ | refine blk_drew ?_ | refine blk_alloc ?_ _)); exact BK270.out) hb); replace BK271 := Aside0.mk (blk_below (g := gb271) (by (with_reducible repeat (first | refine blk_drewN ?_ _ | refine blk_drew ?_ | refine blk_alloc ?_ _)); exact BK271.out) hb); replace HB := Aside0.mk (below_step (by repeat (first | (with_reducible first | exact HB.out | apply below_alloc | apply pw_below_drewN | apply below_drew1 | refine below_set ?_ GE269.out | refine below_set ?_ GE270.out | refine below_set ?_ GE271.out) | exact HB.out)) hb); obtain ⟨hcy1_269_0, hcy1_269_1, hcy1_269_2, hcy1_269_3⟩ := cells4 BK269.out; (try clear hb); (try clear hb2); (try clear hk); (try clear hi)))
         go_meet
         case rel => exact ⟨_, (false), (by first | rfl | (simp; done) | (simp [*]; done)), H', ⟨(by have := HJ2.out; have := HJ42.out; first | omega | exact Nat.le_refl _)⟩, ⟨(by (with_reducible repeat (first | refine blk_drewN ?_ _ | refine blk_drew ?_ | refine blk_alloc ?_ _)); exact BK269.out)⟩, ⟨(by (with_reducible repeat (first | refine blk_drewN ?_ _ | refine blk_drew ?_ | refine blk_alloc ?_ _)); exact BK270.out)⟩, ⟨(by (with_reducible repeat (first | refine blk_drewN ?_ _ | refine blk_drew ?_ | refine blk_alloc ?_ _)); exact BK271.out)⟩, ⟨(by repeat (first | (with_reducible first | exact HB.out | apply below_alloc | apply pw_below_drewN | apply below_drew1 | refine below_set ?_ GE269.out | refine below_set ?_ GE270.out | refine below_set ?_ GE271.out) | exact HB.out))⟩⟩
      case rest =>
       clear HC58
       try clear c1
       try clear c2
       try clear p2
       try clear c3
       try clear c4
       try clear c5
       try clear c6
       try clear c7
       try clear c8
       try clear c9
       try clear c10
       try clear c11
       try clear c12
       try clear c13
       try clear c14
       try clear c15
       try clear c16
       try clear c17
       try clear c18
       try clear c20
       try clear c22
       try clear c23
       try clear c24
       try clear c27
       try clear c28
       try clear c29
       try clear c31
       try clear c33
       try clear c34
       try clear c36
       try clear c45
       try clear c47
       try clear c48
       try clear c51
       try clear c54
       try clear c55
       try clear c59
       try clear c61
       try clear c63
       try clear c65
       try clear c67
       try clear c68
       try clear c70
       try clear c80
       try clear c81
       try clear c83
       try clear c91
       try clear c92
       try clear c94
       try clear c101
       try clear c103
       try clear c105
       try clear c107
       try clear c108
       try clear c110
       try clear c123
       try clear c124
       try clear c126
       try clear c137
       try clear c138
       try clear c140
       try clear c149
       try clear c150
       try clear c152
       try clear c159
       try clear c161
       try clear c163
       try clear c164
       try clear c166
       try clear c173
       try clear c174
       try clear c176
       try clear c181
       try clear c182
       try clear c184
       try clear p2
       obtain ⟨kq, x69_57, rfl, HA, HJ57, BK269, BK270, BK271, HB⟩ := hcut
       cases kq with
       | zero => exact absurd HA.out (by simp [gangwaylaw02_AddrsNets.j2])
       | succ kj57 =>
        have H := HA.out
        clear HA
        simp only [gangwaylaw02_AddrsNets.j2] at H
        by_cases c187 : x69_57 = true
        ·subst c187
         rw [if_pos rfl] at H
         exact absurd H (by simp)
        ·replace c187 := Bool.eq_false_iff.mpr c187
         subst c187
         rw [if_neg (show ¬ (false = true) by decide)] at H
         replace H := Option.bind_eq_some_iff.mp H
         obtain ⟨t290, A1880, H⟩ := H
         try dsimp only at H
         have A188 := Aside0.mk A1880
         clear A1880
         by_cases c189 : a1 ≥ a0_0
         ·rw [if_pos c189] at H
          have c189b0 : decide (a0_0 ≤ a1) = true := decide_eq_true c189
          clear c189
          replace H := Option.bind_eq_some_iff.mp H
          obtain ⟨t291, A1900, H⟩ := H
          try dsimp only at H
          have A190 := Aside0.mk A1900
          clear A1900
          by_cases c191 : (t290 == (decide (a1 ≤ t291))) = true
          ·rw [if_pos c191] at H
           have c191b0 : (t290 == (decide (a1 ≤ t291))) = true := c191
           (try (have c191b1 : decide (t290 = (decide (a1 ≤ t291))) = true := by simpa using c191))
           (try (have c191b2 : (t290 == (decide (a1 ≤ t291))) = true := by simpa using c191))
           clear c191
           replace H := Option.bind_eq_some_iff.mp H
           obtain ⟨t292, A1920, H⟩ := H
           try dsimp only at H
           have A192 := Aside0.mk A1920
           clear A1920
           by_cases c193 : t292 = true
           ·subst c193
            rw [if_pos rfl] at H
            replace H := Option.bind_eq_some_iff.mp H
            obtain ⟨t293, A1940, H⟩ := H
            try dsimp only at H
            have A194 := Aside0.mk A1940
            clear A1940
            by_cases c195 : t293 = true
            ·subst c195
             rw [if_pos rfl] at H
             replace H := Option.bind_eq_some_iff.mp H
             obtain ⟨t294, A1960, H⟩ := H
             try dsimp only at H
             have A196 := Aside0.mk A1960
             clear A1960
             by_cases c197 : (t294 == (a0_0 == a0_2 && (a0_1 == a0_3))) = true
             ·rw [if_pos c197] at H
              have c197b0 : (t294 == (a0_0 == a0_2 && (a0_1 == a0_3))) = true := c197
              (try (have c197b1 : decide (t294 = (a0_0 == a0_2 && (a0_1 == a0_3))) = true := by simpa using c197))
              (try (have c197b2 : (t294 == (a0_0 == a0_2 && (a0_1 == a0_3))) = true := by simpa using c197))
              clear c197
              replace H := Option.bind_eq_some_iff.mp H
              obtain ⟨t295, A1980, H⟩ := H
              try dsimp only at H
              have A198 := Aside0.mk A1980
              clear A1980
              obtain rfl := Option.some.inj H
              try go_wp2
              replace BK269 := Aside0.mk (blk_drew BK269.out)
              replace BK270 := Aside0.mk (blk_drew BK270.out)
              replace BK271 := Aside0.mk (blk_drew BK271.out)
              replace HB := Aside0.mk (below_drew1 HB.out)
              refine start_ (n := 37) (S := fun w' => w'.cell? ⟨gb270, 0, none⟩ = some (.int .u32 a0_0) ∧ w'.cell? ⟨gb270, 1, none⟩ = some (.int .i64 a0_1) ∧ w'.cell? ⟨gb271, 0, none⟩ = some (.int .u32 a0_2) ∧ w'.cell? ⟨gb271, 1, none⟩ = some (.int .i64 a0_3)) (ds := []) (ba 37 0) (by kernel_rfl) rfl rfl ⟨(blk_cell BK270.out 0).trans rfl, (blk_cell BK270.out 1).trans rfl, (blk_cell BK271.out 0).trans rfl, (blk_cell BK271.out 1).trans rfl⟩ (fun hHeld => ?_); refine with_tabW gangwaylaw02_AddrsNets.tab7 gangwaylaw02_AddrsNets.bits7 (fun HT_ HW_ => ?_)
              generalize wc.drew = w199 at BK269 BK270 BK271 HB hHeld ⊢
              refine pu_139 (i := 1) (N := some 71) (ba 37 2) ?_
              refine pu_139 (i := 3) (N := some 73) (ba 37 10) ?_
              refine pu_139 (i := 4) (N := some 74) (ba 37 26) ?_
              refine tk_15c (i := 0) (N := some 70) (ba 37 27) hHeld ?_
              refine tk_15c (i := 5) (N := some 75) (ba 37 59) hHeld ?_
              refine pu_139 (i := 6) (N := some 76) (ba 37 123) ?_
              refine one_ (i := 2) (N := some 72) (ba 37 127) rfl rfl (one_of HT_.out (by kernel_rfl)) (by decide) (fun K hK => ?_)
              refine goes_ Tryz.func24 (by kernel_rfl) rfl #[.agg #[.int .u32 a0_0, .int .i64 a0_1], .int .u32 a1] (by first | rfl | exact wanted_on rfl rfl rfl (by first | rfl | (simp [*]; done) | (simp [*, IntKind.wrap_u32]; done))) rfl rfl (by (try simp only [List.map_toArray, List.map_cons, List.map_nil]); first | done | rfl | (simp only [List.length_drop, List.length_take]; rfl)) ?_
              with_reducible refine (addrs_In.calls kj57 a0_0 a0_1 a1 t290 _ A188.out).mono ?_
              rintro e w200 ⟨rfl, hb⟩
              refine ⟨_, rfl, ?_⟩
              replace BK269 := Aside0.mk (blk_below (g := gb269) (o := .cells #[.int .u32 a0_0, .int .i64 a0_1, .int .u32 a0_2, .int .i64 a0_3] 36 (0, 0)) (by (with_reducible repeat (first | refine blk_drewN ?_ _ | refine blk_drew ?_ | refine blk_alloc ?_ _)); exact BK269.out) hb)
              replace BK270 := Aside0.mk (blk_below (g := gb270) (o := .cells #[.int .u32 a0_0, .int .i64 a0_1] 34 (0, 0)) (by (with_reducible repeat (first | refine blk_drewN ?_ _ | refine blk_drew ?_ | refine blk_alloc ?_ _)); exact BK270.out) hb)
              replace BK271 := Aside0.mk (blk_below (g := gb271) (o := .cells #[.int .u32 a0_2, .int .i64 a0_3] 34 (0, 0)) (by (with_reducible repeat (first | refine blk_drewN ?_ _ | refine blk_drew ?_ | refine blk_alloc ?_ _)); exact BK271.out) hb)
              replace HB := Aside0.mk (below_step (by repeat (first | (with_reducible first | exact HB.out | apply below_alloc | apply pw_below_drewN | apply below_drew1 | refine below_set ?_ GE269.out | refine below_set ?_ GE270.out | refine below_set ?_ GE271.out) | exact HB.out)) hb)
              (try clear hb)
              (try clear hb2)
              (try clear hk)
              (try clear hi)
              refine hK.out _ _ (by exact ⟨(blk_cell BK270.out 0).trans rfl, (blk_cell BK270.out 1).trans rfl, (blk_cell BK271.out 0).trans rfl, (blk_cell BK271.out 1).trans rfl⟩) (fun hHeld => ?_)
              clear hK K
              refine norm_ (a' := ?_) ?_ ?_
              rotate_left
              ·exact z32_3
              refine pu_139 (i := 7) (N := some 77) (ba 37 255) ?_
              refine pu_139 (i := 8) (N := some 78) (ba 37 511) ?_
              refine tk_15c (i := 9) (N := some 79) (ba 37 1023) hHeld ?_
              refine one_ (i := 10) (N := some 80) (ba 37 2047) rfl rfl (one_of HT_.out (by kernel_rfl)) (by decide) (fun K hK => ?_)
              refine goes_ Tryz.func26 (by kernel_rfl) rfl #[.agg #[.int .u32 a0_0, .int .i64 a0_1]] (by first | rfl | exact wanted_on rfl rfl rfl (by first | rfl | (simp [*]; done) | (simp [*, IntKind.wrap_u32]; done))) rfl rfl (by (try simp only [List.map_toArray, List.map_cons, List.map_nil]); first | done | rfl | (simp only [List.length_drop, List.length_take]; rfl)) ?_
              with_reducible refine (addrs_Last.calls kj57 a0_0 a0_1 t291 _ A190.out).mono ?_
              rintro e w201 ⟨rfl, hb⟩
              refine ⟨_, rfl, ?_⟩
              replace BK269 := Aside0.mk (blk_below (g := gb269) (o := .cells #[.int .u32 a0_0, .int .i64 a0_1, .int .u32 a0_2, .int .i64 a0_3] 36 (0, 0)) (by (with_reducible repeat (first | refine blk_drewN ?_ _ | refine blk_drew ?_ | refine blk_alloc ?_ _)); exact BK269.out) hb)
              replace BK270 := Aside0.mk (blk_below (g := gb270) (o := .cells #[.int .u32 a0_0, .int .i64 a0_1] 34 (0, 0)) (by (with_reducible repeat (first | refine blk_drewN ?_ _ | refine blk_drew ?_ | refine blk_alloc ?_ _)); exact BK270.out) hb)
              replace BK271 := Aside0.mk (blk_below (g := gb271) (o := .cells #[.int .u32 a0_2, .int .i64 a0_3] 34 (0, 0)) (by (with_reducible repeat (first | refine blk_drewN ?_ _ | refine blk_drew ?_ | refine blk_alloc ?_ _)); exact BK271.out) hb)
              replace HB := Aside0.mk (below_step (by repeat (first | (with_reducible first | exact HB.out | apply below_alloc | apply pw_below_drewN | apply below_drew1 | refine below_set ?_ GE269.out | refine below_set ?_ GE270.out | refine below_set ?_ GE271.out) | exact HB.out)) hb)
              (try clear hb)
              (try clear hb2)
              (try clear hk)
              (try clear hi)
              refine hK.out _ _ (by exact ⟨(blk_cell BK270.out 0).trans rfl, (blk_cell BK270.out 1).trans rfl, (blk_cell BK271.out 0).trans rfl, (blk_cell BK271.out 1).trans rfl⟩) (fun hHeld => ?_)
              clear hK K
              refine norm_ (a' := ?_) ?_ ?_
              rotate_left
              ·exact z32_6
              refine pu_139 (i := 11) (N := some 81) (ba 37 4095) ?_
              refine pu_139 (i := 12) (N := some 82) (ba 37 8191) ?_
              refine pu_139 (i := 13) (N := some 83) (ba 37 16383) ?_
              refine pu_139 (i := 14) (N := some 84) (ba 37 32767) ?_
              refine tk_15c (i := 15) (N := some 85) (ba 37 65535) hHeld ?_
              refine tk_15c (i := 16) (N := some 86) (ba 37 131071) hHeld ?_
              refine one_ (i := 17) (N := some 87) (ba 37 262143) rfl rfl (one_of HT_.out (by kernel_rfl)) (by decide) (fun K hK => ?_)
              refine goes_ Tryz.func28 (by kernel_rfl) rfl #[.agg #[.int .u32 a0_0, .int .i64 a0_1], .agg #[.int .u32 a0_0, .int .i64 a0_1]] (by first | rfl | exact wanted_on rfl rfl rfl (by first | rfl | (simp [*]; done) | (simp [*, IntKind.wrap_u32]; done))) rfl rfl (by (try simp only [List.map_toArray, List.map_cons, List.map_nil]); first | done | rfl | (simp only [List.length_drop, List.length_take]; rfl)) ?_
              with_reducible refine (addrs_Near.calls kj57 a0_0 a0_1 a0_0 a0_1 true _ A192.out).mono ?_
              rintro e w202 ⟨rfl, hb⟩
              refine ⟨_, rfl, ?_⟩
              replace BK269 := Aside0.mk (blk_below (g := gb269) (o := .cells #[.int .u32 a0_0, .int .i64 a0_1, .int .u32 a0_2, .int .i64 a0_3] 36 (0, 0)) (by (with_reducible repeat (first | refine blk_drewN ?_ _ | refine blk_drew ?_ | refine blk_alloc ?_ _)); exact BK269.out) hb)
              replace BK270 := Aside0.mk (blk_below (g := gb270) (o := .cells #[.int .u32 a0_0, .int .i64 a0_1] 34 (0, 0)) (by (with_reducible repeat (first | refine blk_drewN ?_ _ | refine blk_drew ?_ | refine blk_alloc ?_ _)); exact BK270.out) hb)
              replace BK271 := Aside0.mk (blk_below (g := gb271) (o := .cells #[.int .u32 a0_2, .int .i64 a0_3] 34 (0, 0)) (by (with_reducible repeat (first | refine blk_drewN ?_ _ | refine blk_drew ?_ | refine blk_alloc ?_ _)); exact BK271.out) hb)
              replace HB := Aside0.mk (below_step (by repeat (first | (with_reducible first | exact HB.out | apply below_alloc | apply pw_below_drewN | apply below_drew1 | refine below_set ?_ GE269.out | refine below_set ?_ GE270.out | refine below_set ?_ GE271.out) | exact HB.out)) hb)
              (try clear hb)
              (try clear hb2)
              (try clear hk)
              (try clear hi)
              refine hK.out _ _ (by exact ⟨(blk_cell BK270.out 0).trans rfl, (blk_cell BK270.out 1).trans rfl, (blk_cell BK271.out 0).trans rfl, (blk_cell BK271.out 1).trans rfl⟩) (fun hHeld => ?_)
              clear hK K
              refine norm_ (a' := ?_) ?_ ?_
              rotate_left
              ·exact z32_4
              refine pu_139 (i := 18) (N := some 88) (ba 37 524287) ?_
              refine pu_139 (i := 19) (N := some 89) (ba 37 1048575) ?_
              refine tk_15c (i := 20) (N := some 90) (ba 37 2097151) hHeld ?_
              refine tk_15c (i := 21) (N := some 91) (ba 37 4194303) hHeld ?_
              refine tk_15c (i := 28) (N := some 98) (ba 37 272629759) hHeld ?_
              refine tk_15c (i := 29) (N := some 99) (ba 37 809500671) hHeld ?_
              refine pu_139 (i := 30) (N := some 100) (ba 37 1883242495) ?_
              refine one_ (i := 22) (N := some 92) (ba 37 1887436799) rfl rfl (one_of HT_.out (by kernel_rfl)) (by decide) (fun K hK => ?_)
              refine goes_ Tryz.func28 (by kernel_rfl) rfl #[.agg #[.int .u32 a0_0, .int .i64 a0_1], .agg #[.int .u32 a0_2, .int .i64 a0_3]] (by first | rfl | exact wanted_on rfl rfl rfl (by first | rfl | (simp [*]; done) | (simp [*, IntKind.wrap_u32]; done))) rfl rfl (by (try simp only [List.map_toArray, List.map_cons, List.map_nil]); first | done | rfl | (simp only [List.length_drop, List.length_take]; rfl)) ?_
              with_reducible refine (addrs_Near.calls kj57 a0_0 a0_1 a0_2 a0_3 true _ A194.out).mono ?_
              rintro e w203 ⟨rfl, hb⟩
              refine ⟨_, rfl, ?_⟩
              replace BK269 := Aside0.mk (blk_below (g := gb269) (o := .cells #[.int .u32 a0_0, .int .i64 a0_1, .int .u32 a0_2, .int .i64 a0_3] 36 (0, 0)) (by (with_reducible repeat (first | refine blk_drewN ?_ _ | refine blk_drew ?_ | refine blk_alloc ?_ _)); exact BK269.out) hb)
              replace BK270 := Aside0.mk (blk_below (g := gb270) (o := .cells #[.int .u32 a0_0, .int .i64 a0_1] 34 (0, 0)) (by (with_reducible repeat (first | refine blk_drewN ?_ _ | refine blk_drew ?_ | refine blk_alloc ?_ _)); exact BK270.out) hb)
              replace BK271 := Aside0.mk (blk_below (g := gb271) (o := .cells #[.int .u32 a0_2, .int .i64 a0_3] 34 (0, 0)) (by (with_reducible repeat (first | refine blk_drewN ?_ _ | refine blk_drew ?_ | refine blk_alloc ?_ _)); exact BK271.out) hb)
              replace HB := Aside0.mk (below_step (by repeat (first | (with_reducible first | exact HB.out | apply below_alloc | apply pw_below_drewN | apply below_drew1 | refine below_set ?_ GE269.out | refine below_set ?_ GE270.out | refine below_set ?_ GE271.out) | exact HB.out)) hb)
              (try clear hb)
              (try clear hb2)
              (try clear hk)
              (try clear hi)
              refine hK.out _ _ (by exact ⟨(blk_cell BK270.out 0).trans rfl, (blk_cell BK270.out 1).trans rfl, (blk_cell BK271.out 0).trans rfl, (blk_cell BK271.out 1).trans rfl⟩) (fun hHeld => ?_)
              clear hK K
              refine norm_ (a' := ?_) ?_ ?_
              rotate_left
              ·exact z32_5
              refine pu_139 (i := 23) (N := some 93) (ba 37 1895825407) ?_
              refine tk_15c (i := 24) (N := some 94) (ba 37 1912602623) hHeld ?_
              refine tk_15c (i := 25) (N := some 95) (ba 37 1946157055) hHeld ?_
              refine one_ (i := 26) (N := some 96) (ba 37 2013265919) rfl rfl (one_of HT_.out (by kernel_rfl)) (by decide) (fun K hK => ?_)
              refine goes_ Tryz.func28 (by kernel_rfl) rfl #[.agg #[.int .u32 a0_2, .int .i64 a0_3], .agg #[.int .u32 a0_0, .int .i64 a0_1]] (by first | rfl | exact wanted_on rfl rfl rfl (by first | rfl | (simp [*]; done) | (simp [*, IntKind.wrap_u32]; done))) rfl rfl (by (try simp only [List.map_toArray, List.map_cons, List.map_nil]); first | done | rfl | (simp only [List.length_drop, List.length_take]; rfl)) ?_
              with_reducible refine (addrs_Near.calls kj57 a0_2 a0_3 a0_0 a0_1 t294 _ A196.out).mono ?_
              rintro e w204 ⟨rfl, hb⟩
              refine ⟨_, rfl, ?_⟩
              replace BK269 := Aside0.mk (blk_below (g := gb269) (o := .cells #[.int .u32 a0_0, .int .i64 a0_1, .int .u32 a0_2, .int .i64 a0_3] 36 (0, 0)) (by (with_reducible repeat (first | refine blk_drewN ?_ _ | refine blk_drew ?_ | refine blk_alloc ?_ _)); exact BK269.out) hb)
              replace BK270 := Aside0.mk (blk_below (g := gb270) (o := .cells #[.int .u32 a0_0, .int .i64 a0_1] 34 (0, 0)) (by (with_reducible repeat (first | refine blk_drewN ?_ _ | refine blk_drew ?_ | refine blk_alloc ?_ _)); exact BK270.out) hb)
              replace BK271 := Aside0.mk (blk_below (g := gb271) (o := .cells #[.int .u32 a0_2, .int .i64 a0_3] 34 (0, 0)) (by (with_reducible repeat (first | refine blk_drewN ?_ _ | refine blk_drew ?_ | refine blk_alloc ?_ _)); exact BK271.out) hb)
              replace HB := Aside0.mk (below_step (by repeat (first | (with_reducible first | exact HB.out | apply below_alloc | apply pw_below_drewN | apply below_drew1 | refine below_set ?_ GE269.out | refine below_set ?_ GE270.out | refine below_set ?_ GE271.out) | exact HB.out)) hb)
              (try clear hb)
              (try clear hb2)
              (try clear hk)
              (try clear hi)
              refine hK.out _ _ (by exact ⟨(blk_cell BK270.out 0).trans rfl, (blk_cell BK270.out 1).trans rfl, (blk_cell BK271.out 0).trans rfl, (blk_cell BK271.out 1).trans rfl⟩) (fun hHeld => ?_)
              clear hK K
              refine norm_ (a' := ?_) ?_ ?_
              rotate_left
              ·exact z32_7
              refine pu_139 (i := 27) (N := some 97) (ba 37 2147483647) ?_
              refine pu_139 (i := 31) (N := some 101) (ba 37 4294967295) ?_
              refine pu_139 (i := 32) (N := some 102) (ba 37 8589934591) ?_
              refine pu_139 (i := 33) (N := some 103) (ba 37 17179869183) ?_
              refine one_ (i := 34) (N := some 104) (ba 37 34359738367) rfl rfl (one_of HT_.out (by kernel_rfl)) (by decide) (fun K hK => ?_)
              refine goes_ Tryz.func13 (by kernel_rfl) rfl #[] (by first | rfl | exact wanted_on rfl rfl rfl (by first | rfl | (simp [*]; done) | (simp [*, IntKind.wrap_u32]; done))) rfl rfl (by (try simp only [List.map_toArray, List.map_cons, List.map_nil]); first | done | rfl | (simp only [List.length_drop, List.length_take]; rfl)) ?_
              with_reducible refine (gangwaylaw02_fixed.calls kj57  t295 _ ?sideL A198.out).mono ?_
              case sideL => exact laid_below HLD.out (by repeat (first | (with_reducible first | exact HB.out | apply below_alloc | apply pw_below_drewN | apply below_drew1 | refine below_set ?_ GE269.out | refine below_set ?_ GE270.out | refine below_set ?_ GE271.out) | exact HB.out))
              rintro e w205 ⟨rfl, hb⟩
              refine ⟨_, rfl, ?_⟩
              replace BK269 := Aside0.mk (blk_below (g := gb269) (o := .cells #[.int .u32 a0_0, .int .i64 a0_1, .int .u32 a0_2, .int .i64 a0_3] 36 (0, 0)) (by (with_reducible repeat (first | refine blk_drewN ?_ _ | refine blk_drew ?_ | refine blk_alloc ?_ _)); exact BK269.out) hb)
              replace BK270 := Aside0.mk (blk_below (g := gb270) (o := .cells #[.int .u32 a0_0, .int .i64 a0_1] 34 (0, 0)) (by (with_reducible repeat (first | refine blk_drewN ?_ _ | refine blk_drew ?_ | refine blk_alloc ?_ _)); exact BK270.out) hb)
              replace BK271 := Aside0.mk (blk_below (g := gb271) (o := .cells #[.int .u32 a0_2, .int .i64 a0_3] 34 (0, 0)) (by (with_reducible repeat (first | refine blk_drewN ?_ _ | refine blk_drew ?_ | refine blk_alloc ?_ _)); exact BK271.out) hb)
              replace HB := Aside0.mk (below_step (by repeat (first | (with_reducible first | exact HB.out | apply below_alloc | apply pw_below_drewN | apply below_drew1 | refine below_set ?_ GE269.out | refine below_set ?_ GE270.out | refine below_set ?_ GE271.out) | exact HB.out)) hb)
              (try clear hb)
              (try clear hb2)
              (try clear hk)
              (try clear hi)
              refine hK.out _ _ (by exact ⟨(blk_cell BK270.out 0).trans rfl, (blk_cell BK270.out 1).trans rfl, (blk_cell BK271.out 0).trans rfl, (blk_cell BK271.out 1).trans rfl⟩) (fun hHeld => ?_)
              clear hK K
              refine norm_ (a' := ?_) ?_ ?_
              rotate_left
              ·exact z32_2
              refine pu_139 (i := 35) (N := some 105) (ba 37 68719476735) ?_
              refine pu_139 (i := 36) (N := some 4) (ba 37 137438953471) ?_
              refine done_ (done_of HT_.out (by kernel_rfl)) ?_
              try go_wp2
              go_ret
              exact ⟨(by first | rfl | (simp [errW_none, errW_some] <;> rfl) | (simp [*, errW_none, errW_some] <;> rfl) | (simp [*, IntKind.wrap_u32]; done) | (simp_all [IntKind.wrap_u32]; done)), (by repeat (first | (with_reducible first | exact HB.out | apply below_alloc | apply pw_below_drewN | apply below_drew1 | refine below_set ?_ GE269.out | refine below_set ?_ GE270.out | refine below_set ?_ GE271.out) | exact HB.out))⟩
             ·rw [if_neg c197] at H
              have c197b0 : (t294 == (a0_0 == a0_2 && (a0_1 == a0_3))) = false := by simpa using c197
              (try (have c197b1 : decide (t294 = (a0_0 == a0_2 && (a0_1 == a0_3))) = false := by simpa using c197))
              (try (have c197b2 : (t294 == (a0_0 == a0_2 && (a0_1 == a0_3))) = false := by simpa using c197))
              (try (have c197b3 : ¬ (t294 = (a0_0 == a0_2 && (a0_1 == a0_3))) := by simpa using c197))
              clear c197
              exact absurd H (by simp)
            ·replace c195 := Bool.eq_false_iff.mpr c195
             subst c195
             rw [if_neg (show ¬ (false = true) by decide)] at H
             by_cases c206 : (false == (a0_0 == a0_2 && (a0_1 == a0_3))) = true
             ·rw [if_pos c206] at H
              have c206b0 : (false == (a0_0 == a0_2 && (a0_1 == a0_3))) = true := c206
              (try (have c206b1 : decide (false = (a0_0 == a0_2 && (a0_1 == a0_3))) = true := by simpa using c206))
              (try (have c206b2 : (false == (a0_0 == a0_2 && (a0_1 == a0_3))) = true := by simpa using c206))
              clear c206
              replace H := Option.bind_eq_some_iff.mp H
              obtain ⟨t296, A2070, H⟩ := H
              try dsimp only at H
              have A207 := Aside0.mk A2070
              clear A2070
              obtain rfl := Option.some.inj H
              try go_wp2
              replace BK269 := Aside0.mk (blk_drew BK269.out)
              replace BK270 := Aside0.mk (blk_drew BK270.out)
              replace BK271 := Aside0.mk (blk_drew BK271.out)
              replace HB := Aside0.mk (below_drew1 HB.out)
              refine start_ (n := 37) (S := fun w' => w'.cell? ⟨gb270, 0, none⟩ = some (.int .u32 a0_0) ∧ w'.cell? ⟨gb270, 1, none⟩ = some (.int .i64 a0_1) ∧ w'.cell? ⟨gb271, 0, none⟩ = some (.int .u32 a0_2) ∧ w'.cell? ⟨gb271, 1, none⟩ = some (.int .i64 a0_3)) (ds := []) (ba 37 0) (by kernel_rfl) rfl rfl ⟨(blk_cell BK270.out 0).trans rfl, (blk_cell BK270.out 1).trans rfl, (blk_cell BK271.out 0).trans rfl, (blk_cell BK271.out 1).trans rfl⟩ (fun hHeld => ?_); refine with_tabW gangwaylaw02_AddrsNets.tab7 gangwaylaw02_AddrsNets.bits7 (fun HT_ HW_ => ?_)
              generalize wc.drew = w208 at BK269 BK270 BK271 HB hHeld ⊢
              refine pu_139 (i := 1) (N := some 71) (ba 37 2) ?_
              refine pu_139 (i := 3) (N := some 73) (ba 37 10) ?_
              refine pu_139 (i := 4) (N := some 74) (ba 37 26) ?_
              refine tk_15c (i := 0) (N := some 70) (ba 37 27) hHeld ?_
              refine tk_15c (i := 5) (N := some 75) (ba 37 59) hHeld ?_
              refine pu_139 (i := 6) (N := some 76) (ba 37 123) ?_
              refine one_ (i := 2) (N := some 72) (ba 37 127) rfl rfl (one_of HT_.out (by kernel_rfl)) (by decide) (fun K hK => ?_)
              refine goes_ Tryz.func24 (by kernel_rfl) rfl #[.agg #[.int .u32 a0_0, .int .i64 a0_1], .int .u32 a1] (by first | rfl | exact wanted_on rfl rfl rfl (by first | rfl | (simp [*]; done) | (simp [*, IntKind.wrap_u32]; done))) rfl rfl (by (try simp only [List.map_toArray, List.map_cons, List.map_nil]); first | done | rfl | (simp only [List.length_drop, List.length_take]; rfl)) ?_
              with_reducible refine (addrs_In.calls kj57 a0_0 a0_1 a1 t290 _ A188.out).mono ?_
              rintro e w209 ⟨rfl, hb⟩
              refine ⟨_, rfl, ?_⟩
              replace BK269 := Aside0.mk (blk_below (g := gb269) (o := .cells #[.int .u32 a0_0, .int .i64 a0_1, .int .u32 a0_2, .int .i64 a0_3] 36 (0, 0)) (by (with_reducible repeat (first | refine blk_drewN ?_ _ | refine blk_drew ?_ | refine blk_alloc ?_ _)); exact BK269.out) hb)
              replace BK270 := Aside0.mk (blk_below (g := gb270) (o := .cells #[.int .u32 a0_0, .int .i64 a0_1] 34 (0, 0)) (by (with_reducible repeat (first | refine blk_drewN ?_ _ | refine blk_drew ?_ | refine blk_alloc ?_ _)); exact BK270.out) hb)
              replace BK271 := Aside0.mk (blk_below (g := gb271) (o := .cells #[.int .u32 a0_2, .int .i64 a0_3] 34 (0, 0)) (by (with_reducible repeat (first | refine blk_drewN ?_ _ | refine blk_drew ?_ | refine blk_alloc ?_ _)); exact BK271.out) hb)
              replace HB := Aside0.mk (below_step (by repeat (first | (with_reducible first | exact HB.out | apply below_alloc | apply pw_below_drewN | apply below_drew1 | refine below_set ?_ GE269.out | refine below_set ?_ GE270.out | refine below_set ?_ GE271.out) | exact HB.out)) hb)
              (try clear hb)
              (try clear hb2)
              (try clear hk)
              (try clear hi)
              refine hK.out _ _ (by exact ⟨(blk_cell BK270.out 0).trans rfl, (blk_cell BK270.out 1).trans rfl, (blk_cell BK271.out 0).trans rfl, (blk_cell BK271.out 1).trans rfl⟩) (fun hHeld => ?_)
              clear hK K
              refine norm_ (a' := ?_) ?_ ?_
              rotate_left
              ·exact z32_3
              refine pu_139 (i := 7) (N := some 77) (ba 37 255) ?_
              refine pu_139 (i := 8) (N := some 78) (ba 37 511) ?_
              refine tk_15c (i := 9) (N := some 79) (ba 37 1023) hHeld ?_
              refine one_ (i := 10) (N := some 80) (ba 37 2047) rfl rfl (one_of HT_.out (by kernel_rfl)) (by decide) (fun K hK => ?_)
              refine goes_ Tryz.func26 (by kernel_rfl) rfl #[.agg #[.int .u32 a0_0, .int .i64 a0_1]] (by first | rfl | exact wanted_on rfl rfl rfl (by first | rfl | (simp [*]; done) | (simp [*, IntKind.wrap_u32]; done))) rfl rfl (by (try simp only [List.map_toArray, List.map_cons, List.map_nil]); first | done | rfl | (simp only [List.length_drop, List.length_take]; rfl)) ?_
              with_reducible refine (addrs_Last.calls kj57 a0_0 a0_1 t291 _ A190.out).mono ?_
              rintro e w210 ⟨rfl, hb⟩
              refine ⟨_, rfl, ?_⟩
              replace BK269 := Aside0.mk (blk_below (g := gb269) (o := .cells #[.int .u32 a0_0, .int .i64 a0_1, .int .u32 a0_2, .int .i64 a0_3] 36 (0, 0)) (by (with_reducible repeat (first | refine blk_drewN ?_ _ | refine blk_drew ?_ | refine blk_alloc ?_ _)); exact BK269.out) hb)
              replace BK270 := Aside0.mk (blk_below (g := gb270) (o := .cells #[.int .u32 a0_0, .int .i64 a0_1] 34 (0, 0)) (by (with_reducible repeat (first | refine blk_drewN ?_ _ | refine blk_drew ?_ | refine blk_alloc ?_ _)); exact BK270.out) hb)
              replace BK271 := Aside0.mk (blk_below (g := gb271) (o := .cells #[.int .u32 a0_2, .int .i64 a0_3] 34 (0, 0)) (by (with_reducible repeat (first | refine blk_drewN ?_ _ | refine blk_drew ?_ | refine blk_alloc ?_ _)); exact BK271.out) hb)
              replace HB := Aside0.mk (below_step (by repeat (first | (with_reducible first | exact HB.out | apply below_alloc | apply pw_below_drewN | apply below_drew1 | refine below_set ?_ GE269.out | refine below_set ?_ GE270.out | refine below_set ?_ GE271.out) | exact HB.out)) hb)
              (try clear hb)
              (try clear hb2)
              (try clear hk)
              (try clear hi)
              refine hK.out _ _ (by exact ⟨(blk_cell BK270.out 0).trans rfl, (blk_cell BK270.out 1).trans rfl, (blk_cell BK271.out 0).trans rfl, (blk_cell BK271.out 1).trans rfl⟩) (fun hHeld => ?_)
              clear hK K
              refine norm_ (a' := ?_) ?_ ?_
              rotate_left
              ·exact z32_6
              refine pu_139 (i := 11) (N := some 81) (ba 37 4095) ?_
              refine pu_139 (i := 12) (N := some 82) (ba 37 8191) ?_
              refine pu_139 (i := 13) (N := some 83) (ba 37 16383) ?_
              refine pu_139 (i := 14) (N := some 84) (ba 37 32767) ?_
              refine tk_15c (i := 15) (N := some 85) (ba 37 65535) hHeld ?_
              refine tk_15c (i := 16) (N := some 86) (ba 37 131071) hHeld ?_
              refine one_ (i := 17) (N := some 87) (ba 37 262143) rfl rfl (one_of HT_.out (by kernel_rfl)) (by decide) (fun K hK => ?_)
              refine goes_ Tryz.func28 (by kernel_rfl) rfl #[.agg #[.int .u32 a0_0, .int .i64 a0_1], .agg #[.int .u32 a0_0, .int .i64 a0_1]] (by first | rfl | exact wanted_on rfl rfl rfl (by first | rfl | (simp [*]; done) | (simp [*, IntKind.wrap_u32]; done))) rfl rfl (by (try simp only [List.map_toArray, List.map_cons, List.map_nil]); first | done | rfl | (simp only [List.length_drop, List.length_take]; rfl)) ?_
              with_reducible refine (addrs_Near.calls kj57 a0_0 a0_1 a0_0 a0_1 true _ A192.out).mono ?_
              rintro e w211 ⟨rfl, hb⟩
              refine ⟨_, rfl, ?_⟩
              replace BK269 := Aside0.mk (blk_below (g := gb269) (o := .cells #[.int .u32 a0_0, .int .i64 a0_1, .int .u32 a0_2, .int .i64 a0_3] 36 (0, 0)) (by (with_reducible repeat (first | refine blk_drewN ?_ _ | refine blk_drew ?_ | refine blk_alloc ?_ _)); exact BK269.out) hb)
              replace BK270 := Aside0.mk (blk_below (g := gb270) (o := .cells #[.int .u32 a0_0, .int .i64 a0_1] 34 (0, 0)) (by (with_reducible repeat (first | refine blk_drewN ?_ _ | refine blk_drew ?_ | refine blk_alloc ?_ _)); exact BK270.out) hb)
              replace BK271 := Aside0.mk (blk_below (g := gb271) (o := .cells #[.int .u32 a0_2, .int .i64 a0_3] 34 (0, 0)) (by (with_reducible repeat (first | refine blk_drewN ?_ _ | refine blk_drew ?_ | refine blk_alloc ?_ _)); exact BK271.out) hb)
              replace HB := Aside0.mk (below_step (by repeat (first | (with_reducible first | exact HB.out | apply below_alloc | apply pw_below_drewN | apply below_drew1 | refine below_set ?_ GE269.out | refine below_set ?_ GE270.out | refine below_set ?_ GE271.out) | exact HB.out)) hb)
              (try clear hb)
              (try clear hb2)
              (try clear hk)
              (try clear hi)
              refine hK.out _ _ (by exact ⟨(blk_cell BK270.out 0).trans rfl, (blk_cell BK270.out 1).trans rfl, (blk_cell BK271.out 0).trans rfl, (blk_cell BK271.out 1).trans rfl⟩) (fun hHeld => ?_)
              clear hK K
              refine norm_ (a' := ?_) ?_ ?_
              rotate_left
              ·exact z32_4
              refine pu_139 (i := 18) (N := some 88) (ba 37 524287) ?_
              refine pu_139 (i := 19) (N := some 89) (ba 37 1048575) ?_
              refine tk_15c (i := 20) (N := some 90) (ba 37 2097151) hHeld ?_
              refine tk_15c (i := 21) (N := some 91) (ba 37 4194303) hHeld ?_
              refine tk_15c (i := 28) (N := some 98) (ba 37 272629759) hHeld ?_
              refine tk_15c (i := 29) (N := some 99) (ba 37 809500671) hHeld ?_
              refine pu_139 (i := 30) (N := some 100) (ba 37 1883242495) ?_
              refine one_ (i := 22) (N := some 92) (ba 37 1887436799) rfl rfl (one_of HT_.out (by kernel_rfl)) (by decide) (fun K hK => ?_)
              refine goes_ Tryz.func28 (by kernel_rfl) rfl #[.agg #[.int .u32 a0_0, .int .i64 a0_1], .agg #[.int .u32 a0_2, .int .i64 a0_3]] (by first | rfl | exact wanted_on rfl rfl rfl (by first | rfl | (simp [*]; done) | (simp [*, IntKind.wrap_u32]; done))) rfl rfl (by (try simp only [List.map_toArray, List.map_cons, List.map_nil]); first | done | rfl | (simp only [List.length_drop, List.length_take]; rfl)) ?_
              with_reducible refine (addrs_Near.calls kj57 a0_0 a0_1 a0_2 a0_3 false _ A194.out).mono ?_
              rintro e w212 ⟨rfl, hb⟩
              refine ⟨_, rfl, ?_⟩
              replace BK269 := Aside0.mk (blk_below (g := gb269) (o := .cells #[.int .u32 a0_0, .int .i64 a0_1, .int .u32 a0_2, .int .i64 a0_3] 36 (0, 0)) (by (with_reducible repeat (first | refine blk_drewN ?_ _ | refine blk_drew ?_ | refine blk_alloc ?_ _)); exact BK269.out) hb)
              replace BK270 := Aside0.mk (blk_below (g := gb270) (o := .cells #[.int .u32 a0_0, .int .i64 a0_1] 34 (0, 0)) (by (with_reducible repeat (first | refine blk_drewN ?_ _ | refine blk_drew ?_ | refine blk_alloc ?_ _)); exact BK270.out) hb)
              replace BK271 := Aside0.mk (blk_below (g := gb271) (o := .cells #[.int .u32 a0_2, .int .i64 a0_3] 34 (0, 0)) (by (with_reducible repeat (first | refine blk_drewN ?_ _ | refine blk_drew ?_ | refine blk_alloc ?_ _)); exact BK271.out) hb)
              replace HB := Aside0.mk (below_step (by repeat (first | (with_reducible first | exact HB.out | apply below_alloc | apply pw_below_drewN | apply below_drew1 | refine below_set ?_ GE269.out | refine below_set ?_ GE270.out | refine below_set ?_ GE271.out) | exact HB.out)) hb)
              (try clear hb)
              (try clear hb2)
              (try clear hk)
              (try clear hi)
              refine hK.out _ _ (by exact ⟨(blk_cell BK270.out 0).trans rfl, (blk_cell BK270.out 1).trans rfl, (blk_cell BK271.out 0).trans rfl, (blk_cell BK271.out 1).trans rfl⟩) (fun hHeld => ?_)
              clear hK K
              refine norm_ (a' := ?_) ?_ ?_
              rotate_left
              ·exact z32_5
              refine pu_139 (i := 23) (N := some 93) (ba 37 1895825407) ?_
              refine pure_ (i := 24) (N := some 94) (v := undef) (a' := ?_) (ba 37 1912602623) rfl rfl (any_of HT_.out (by kernel_rfl)) (fun _ _ _ h => h) (Or.inr ⟨(by first | rfl | exact wanted_off rfl rfl rfl (by first | rfl | (simp [*]; done) | (simp [*, IntKind.wrap_u32]; done) | (simp_all [IntKind.wrap_u32]; done))), rfl⟩) ?_ ?_
              rotate_left
              ·exact z32_0
              refine pure_ (i := 25) (N := some 95) (v := undef) (a' := ?_) (ba 37 1946157055) rfl rfl (any_of HT_.out (by kernel_rfl)) (fun _ _ _ h => h) (Or.inr ⟨(by first | rfl | exact wanted_off rfl rfl rfl (by first | rfl | (simp [*]; done) | (simp [*, IntKind.wrap_u32]; done) | (simp_all [IntKind.wrap_u32]; done))), rfl⟩) ?_ ?_
              rotate_left
              ·exact z32_0
              refine pure_ (i := 26) (N := some 96) (v := undef) (a' := ?_) (ba 37 2013265919) rfl rfl (any_of HT_.out (by kernel_rfl)) (fun _ _ _ h => h) (Or.inr ⟨(by first | rfl | exact wanted_off rfl rfl rfl (by first | rfl | (simp [*]; done) | (simp [*, IntKind.wrap_u32]; done) | (simp_all [IntKind.wrap_u32]; done))), rfl⟩) ?_ ?_
              rotate_left
              ·exact z32_0
              refine pu_139 (i := 27) (N := some 97) (ba 37 2147483647) ?_
              refine pu_139 (i := 31) (N := some 101) (ba 37 4294967295) ?_
              refine pu_139 (i := 32) (N := some 102) (ba 37 8589934591) ?_
              refine pu_139 (i := 33) (N := some 103) (ba 37 17179869183) ?_
              refine one_ (i := 34) (N := some 104) (ba 37 34359738367) rfl rfl (one_of HT_.out (by kernel_rfl)) (by decide) (fun K hK => ?_)
              refine goes_ Tryz.func13 (by kernel_rfl) rfl #[] (by first | rfl | exact wanted_on rfl rfl rfl (by first | rfl | (simp [*]; done) | (simp [*, IntKind.wrap_u32]; done))) rfl rfl (by (try simp only [List.map_toArray, List.map_cons, List.map_nil]); first | done | rfl | (simp only [List.length_drop, List.length_take]; rfl)) ?_
              with_reducible refine (gangwaylaw02_fixed.calls kj57  t296 _ ?sideL A207.out).mono ?_
              case sideL => exact laid_below HLD.out (by repeat (first | (with_reducible first | exact HB.out | apply below_alloc | apply pw_below_drewN | apply below_drew1 | refine below_set ?_ GE269.out | refine below_set ?_ GE270.out | refine below_set ?_ GE271.out) | exact HB.out))
              rintro e w213 ⟨rfl, hb⟩
              refine ⟨_, rfl, ?_⟩
              replace BK269 := Aside0.mk (blk_below (g := gb269) (o := .cells #[.int .u32 a0_0, .int .i64 a0_1, .int .u32 a0_2, .int .i64 a0_3] 36 (0, 0)) (by (with_reducible repeat (first | refine blk_drewN ?_ _ | refine blk_drew ?_ | refine blk_alloc ?_ _)); exact BK269.out) hb)
              replace BK270 := Aside0.mk (blk_below (g := gb270) (o := .cells #[.int .u32 a0_0, .int .i64 a0_1] 34 (0, 0)) (by (with_reducible repeat (first | refine blk_drewN ?_ _ | refine blk_drew ?_ | refine blk_alloc ?_ _)); exact BK270.out) hb)
              replace BK271 := Aside0.mk (blk_below (g := gb271) (o := .cells #[.int .u32 a0_2, .int .i64 a0_3] 34 (0, 0)) (by (with_reducible repeat (first | refine blk_drewN ?_ _ | refine blk_drew ?_ | refine blk_alloc ?_ _)); exact BK271.out) hb)
              replace HB := Aside0.mk (below_step (by repeat (first | (with_reducible first | exact HB.out | apply below_alloc | apply pw_below_drewN | apply below_drew1 | refine below_set ?_ GE269.out | refine below_set ?_ GE270.out | refine below_set ?_ GE271.out) | exact HB.out)) hb)
              (try clear hb)
              (try clear hb2)
              (try clear hk)
              (try clear hi)
              refine hK.out _ _ (by exact ⟨(blk_cell BK270.out 0).trans rfl, (blk_cell BK270.out 1).trans rfl, (blk_cell BK271.out 0).trans rfl, (blk_cell BK271.out 1).trans rfl⟩) (fun hHeld => ?_)
              clear hK K
              refine norm_ (a' := ?_) ?_ ?_
              rotate_left
              ·exact z32_2
              refine pu_139 (i := 35) (N := some 105) (ba 37 68719476735) ?_
              refine pu_139 (i := 36) (N := some 4) (ba 37 137438953471) ?_
              refine done_ (done_of HT_.out (by kernel_rfl)) ?_
              try go_wp2
              go_ret
              exact ⟨(by first | rfl | (simp [errW_none, errW_some] <;> rfl) | (simp [*, errW_none, errW_some] <;> rfl) | (simp [*, IntKind.wrap_u32]; done) | (simp_all [IntKind.wrap_u32]; done)), (by repeat (first | (with_reducible first | exact HB.out | apply below_alloc | apply pw_below_drewN | apply below_drew1 | refine below_set ?_ GE269.out | refine below_set ?_ GE270.out | refine below_set ?_ GE271.out) | exact HB.out))⟩
             ·rw [if_neg c206] at H
              have c206b0 : (false == (a0_0 == a0_2 && (a0_1 == a0_3))) = false := by simpa using c206
              (try (have c206b1 : decide (false = (a0_0 == a0_2 && (a0_1 == a0_3))) = false := by simpa using c206))
              (try (have c206b2 : (false == (a0_0 == a0_2 && (a0_1 == a0_3))) = false := by simpa using c206))
              (try (have c206b3 : ¬ (false = (a0_0 == a0_2 && (a0_1 == a0_3))) := by simpa using c206))
              clear c206
              exact absurd H (by simp)
           ·replace c193 := Bool.eq_false_iff.mpr c193
            subst c193
            rw [if_neg (show ¬ (false = true) by decide)] at H
            exact absurd H (by simp)
          ·rw [if_neg c191] at H
           have c191b0 : (t290 == (decide (a1 ≤ t291))) = false := by simpa using c191
           (try (have c191b1 : decide (t290 = (decide (a1 ≤ t291))) = false := by simpa using c191))
           (try (have c191b2 : (t290 == (decide (a1 ≤ t291))) = false := by simpa using c191))
           (try (have c191b3 : ¬ (t290 = (decide (a1 ≤ t291))) := by simpa using c191))
           clear c191
           exact absurd H (by simp)
         ·rw [if_neg c189] at H
          have c189b0 : decide (a0_0 ≤ a1) = false := decide_eq_false c189
          clear c189
          by_cases c214 : (t290 == false) = true
          ·rw [if_pos c214] at H
           have c214b0 : (t290 == false) = true := c214
           (try (have c214b1 : decide (t290 = false) = true := by simpa using c214))
           (try (have c214b2 : (t290 == false) = true := by simpa using c214))
           clear c214
           replace H := Option.bind_eq_some_iff.mp H
           obtain ⟨t297, A2150, H⟩ := H
           try dsimp only at H
           have A215 := Aside0.mk A2150
           clear A2150
           by_cases c216 : t297 = true
           ·subst c216
            rw [if_pos rfl] at H
            replace H := Option.bind_eq_some_iff.mp H
            obtain ⟨t298, A2170, H⟩ := H
            try dsimp only at H
            have A217 := Aside0.mk A2170
            clear A2170
            by_cases c218 : t298 = true
            ·subst c218
             rw [if_pos rfl] at H
             replace H := Option.bind_eq_some_iff.mp H
             obtain ⟨t299, A2190, H⟩ := H
             try dsimp only at H
             have A219 := Aside0.mk A2190
             clear A2190
             by_cases c220 : (t299 == (a0_0 == a0_2 && (a0_1 == a0_3))) = true
             ·rw [if_pos c220] at H
              have c220b0 : (t299 == (a0_0 == a0_2 && (a0_1 == a0_3))) = true := c220
              (try (have c220b1 : decide (t299 = (a0_0 == a0_2 && (a0_1 == a0_3))) = true := by simpa using c220))
              (try (have c220b2 : (t299 == (a0_0 == a0_2 && (a0_1 == a0_3))) = true := by simpa using c220))
              clear c220
              replace H := Option.bind_eq_some_iff.mp H
              obtain ⟨t300, A2210, H⟩ := H
              try dsimp only at H
              have A221 := Aside0.mk A2210
              clear A2210
              obtain rfl := Option.some.inj H
              try go_wp2
              replace BK269 := Aside0.mk (blk_drew BK269.out)
              replace BK270 := Aside0.mk (blk_drew BK270.out)
              replace BK271 := Aside0.mk (blk_drew BK271.out)
              replace HB := Aside0.mk (below_drew1 HB.out)
              refine start_ (n := 37) (S := fun w' => w'.cell? ⟨gb270, 0, none⟩ = some (.int .u32 a0_0) ∧ w'.cell? ⟨gb270, 1, none⟩ = some (.int .i64 a0_1) ∧ w'.cell? ⟨gb271, 0, none⟩ = some (.int .u32 a0_2) ∧ w'.cell? ⟨gb271, 1, none⟩ = some (.int .i64 a0_3)) (ds := []) (ba 37 0) (by kernel_rfl) rfl rfl ⟨(blk_cell BK270.out 0).trans rfl, (blk_cell BK270.out 1).trans rfl, (blk_cell BK271.out 0).trans rfl, (blk_cell BK271.out 1).trans rfl⟩ (fun hHeld => ?_); refine with_tabW gangwaylaw02_AddrsNets.tab7 gangwaylaw02_AddrsNets.bits7 (fun HT_ HW_ => ?_)
              generalize wc.drew = w222 at BK269 BK270 BK271 HB hHeld ⊢
              refine pu_139 (i := 1) (N := some 71) (ba 37 2) ?_
              refine pu_139 (i := 3) (N := some 73) (ba 37 10) ?_
              refine pu_139 (i := 4) (N := some 74) (ba 37 26) ?_
              refine tk_15c (i := 0) (N := some 70) (ba 37 27) hHeld ?_
              refine tk_15c (i := 5) (N := some 75) (ba 37 59) hHeld ?_
              refine pu_139 (i := 6) (N := some 76) (ba 37 123) ?_
              refine one_ (i := 2) (N := some 72) (ba 37 127) rfl rfl (one_of HT_.out (by kernel_rfl)) (by decide) (fun K hK => ?_)
              refine goes_ Tryz.func24 (by kernel_rfl) rfl #[.agg #[.int .u32 a0_0, .int .i64 a0_1], .int .u32 a1] (by first | rfl | exact wanted_on rfl rfl rfl (by first | rfl | (simp [*]; done) | (simp [*, IntKind.wrap_u32]; done))) rfl rfl (by (try simp only [List.map_toArray, List.map_cons, List.map_nil]); first | done | rfl | (simp only [List.length_drop, List.length_take]; rfl)) ?_
              with_reducible refine (addrs_In.calls kj57 a0_0 a0_1 a1 t290 _ A188.out).mono ?_
              rintro e w223 ⟨rfl, hb⟩
              refine ⟨_, rfl, ?_⟩
              replace BK269 := Aside0.mk (blk_below (g := gb269) (o := .cells #[.int .u32 a0_0, .int .i64 a0_1, .int .u32 a0_2, .int .i64 a0_3] 36 (0, 0)) (by (with_reducible repeat (first | refine blk_drewN ?_ _ | refine blk_drew ?_ | refine blk_alloc ?_ _)); exact BK269.out) hb)
              replace BK270 := Aside0.mk (blk_below (g := gb270) (o := .cells #[.int .u32 a0_0, .int .i64 a0_1] 34 (0, 0)) (by (with_reducible repeat (first | refine blk_drewN ?_ _ | refine blk_drew ?_ | refine blk_alloc ?_ _)); exact BK270.out) hb)
              replace BK271 := Aside0.mk (blk_below (g := gb271) (o := .cells #[.int .u32 a0_2, .int .i64 a0_3] 34 (0, 0)) (by (with_reducible repeat (first | refine blk_drewN ?_ _ | refine blk_drew ?_ | refine blk_alloc ?_ _)); exact BK271.out) hb)
              replace HB := Aside0.mk (below_step (by repeat (first | (with_reducible first | exact HB.out | apply below_alloc | apply pw_below_drewN | apply below_drew1 | refine below_set ?_ GE269.out | refine below_set ?_ GE270.out | refine below_set ?_ GE271.out) | exact HB.out)) hb)
              (try clear hb)
              (try clear hb2)
              (try clear hk)
              (try clear hi)
              refine hK.out _ _ (by exact ⟨(blk_cell BK270.out 0).trans rfl, (blk_cell BK270.out 1).trans rfl, (blk_cell BK271.out 0).trans rfl, (blk_cell BK271.out 1).trans rfl⟩) (fun hHeld => ?_)
              clear hK K
              refine norm_ (a' := ?_) ?_ ?_
              rotate_left
              ·exact z32_3
              refine pu_139 (i := 7) (N := some 77) (ba 37 255) ?_
              refine pure_ (i := 8) (N := some 78) (v := undef) (a' := ?_) (ba 37 511) rfl rfl (any_of HT_.out (by kernel_rfl)) (fun _ _ _ h => h) (Or.inr ⟨(by first | rfl | exact wanted_off rfl rfl rfl (by first | rfl | (simp [*]; done) | (simp [*, IntKind.wrap_u32]; done) | (simp_all [IntKind.wrap_u32]; done))), rfl⟩) ?_ ?_
              rotate_left
              ·exact z32_0
              refine pure_ (i := 9) (N := some 79) (v := undef) (a' := ?_) (ba 37 1023) rfl rfl (any_of HT_.out (by kernel_rfl)) (fun _ _ _ h => h) (Or.inr ⟨(by first | rfl | exact wanted_off rfl rfl rfl (by first | rfl | (simp [*]; done) | (simp [*, IntKind.wrap_u32]; done) | (simp_all [IntKind.wrap_u32]; done))), rfl⟩) ?_ ?_
              rotate_left
              ·exact z32_0
              refine pure_ (i := 10) (N := some 80) (v := undef) (a' := ?_) (ba 37 2047) rfl rfl (any_of HT_.out (by kernel_rfl)) (fun _ _ _ h => h) (Or.inr ⟨(by first | rfl | exact wanted_off rfl rfl rfl (by first | rfl | (simp [*]; done) | (simp [*, IntKind.wrap_u32]; done) | (simp_all [IntKind.wrap_u32]; done))), rfl⟩) ?_ ?_
              rotate_left
              ·exact z32_0
              refine pure_ (i := 11) (N := some 81) (v := undef) (a' := ?_) (ba 37 4095) rfl rfl (any_of HT_.out (by kernel_rfl)) (fun _ _ _ h => h) (Or.inr ⟨(by first | rfl | exact wanted_off rfl rfl rfl (by first | rfl | (simp [*]; done) | (simp [*, IntKind.wrap_u32]; done) | (simp_all [IntKind.wrap_u32]; done))), rfl⟩) ?_ ?_
              rotate_left
              ·exact z32_0
              refine pu_139 (i := 12) (N := some 82) (ba 37 8191) ?_
              refine pu_139 (i := 13) (N := some 83) (ba 37 16383) ?_
              refine pu_139 (i := 14) (N := some 84) (ba 37 32767) ?_
              refine tk_15c (i := 15) (N := some 85) (ba 37 65535) hHeld ?_
              refine tk_15c (i := 16) (N := some 86) (ba 37 131071) hHeld ?_
              refine one_ (i := 17) (N := some 87) (ba 37 262143) rfl rfl (one_of HT_.out (by kernel_rfl)) (by decide) (fun K hK => ?_)
              refine goes_ Tryz.func28 (by kernel_rfl) rfl #[.agg #[.int .u32 a0_0, .int .i64 a0_1], .agg #[.int .u32 a0_0, .int .i64 a0_1]] (by first | rfl | exact wanted_on rfl rfl rfl (by first | rfl | (simp [*]; done) | (simp [*, IntKind.wrap_u32]; done))) rfl rfl (by (try simp only [List.map_toArray, List.map_cons, List.map_nil]); first | done | rfl | (simp only [List.length_drop, List.length_take]; rfl)) ?_
              with_reducible refine (addrs_Near.calls kj57 a0_0 a0_1 a0_0 a0_1 true _ A215.out).mono ?_
              rintro e w224 ⟨rfl, hb⟩
              refine ⟨_, rfl, ?_⟩
              replace BK269 := Aside0.mk (blk_below (g := gb269) (o := .cells #[.int .u32 a0_0, .int .i64 a0_1, .int .u32 a0_2, .int .i64 a0_3] 36 (0, 0)) (by (with_reducible repeat (first | refine blk_drewN ?_ _ | refine blk_drew ?_ | refine blk_alloc ?_ _)); exact BK269.out) hb)
              replace BK270 := Aside0.mk (blk_below (g := gb270) (o := .cells #[.int .u32 a0_0, .int .i64 a0_1] 34 (0, 0)) (by (with_reducible repeat (first | refine blk_drewN ?_ _ | refine blk_drew ?_ | refine blk_alloc ?_ _)); exact BK270.out) hb)
              replace BK271 := Aside0.mk (blk_below (g := gb271) (o := .cells #[.int .u32 a0_2, .int .i64 a0_3] 34 (0, 0)) (by (with_reducible repeat (first | refine blk_drewN ?_ _ | refine blk_drew ?_ | refine blk_alloc ?_ _)); exact BK271.out) hb)
              replace HB := Aside0.mk (below_step (by repeat (first | (with_reducible first | exact HB.out | apply below_alloc | apply pw_below_drewN | apply below_drew1 | refine below_set ?_ GE269.out | refine below_set ?_ GE270.out | refine below_set ?_ GE271.out) | exact HB.out)) hb)
              (try clear hb)
              (try clear hb2)
              (try clear hk)
              (try clear hi)
              refine hK.out _ _ (by exact ⟨(blk_cell BK270.out 0).trans rfl, (blk_cell BK270.out 1).trans rfl, (blk_cell BK271.out 0).trans rfl, (blk_cell BK271.out 1).trans rfl⟩) (fun hHeld => ?_)
              clear hK K
              refine norm_ (a' := ?_) ?_ ?_
              rotate_left
              ·exact z32_4
              refine pu_139 (i := 18) (N := some 88) (ba 37 524287) ?_
              refine pu_139 (i := 19) (N := some 89) (ba 37 1048575) ?_
              refine tk_15c (i := 20) (N := some 90) (ba 37 2097151) hHeld ?_
              refine tk_15c (i := 21) (N := some 91) (ba 37 4194303) hHeld ?_
              refine tk_15c (i := 28) (N := some 98) (ba 37 272629759) hHeld ?_
              refine tk_15c (i := 29) (N := some 99) (ba 37 809500671) hHeld ?_
              refine pu_139 (i := 30) (N := some 100) (ba 37 1883242495) ?_
              refine one_ (i := 22) (N := some 92) (ba 37 1887436799) rfl rfl (one_of HT_.out (by kernel_rfl)) (by decide) (fun K hK => ?_)
              refine goes_ Tryz.func28 (by kernel_rfl) rfl #[.agg #[.int .u32 a0_0, .int .i64 a0_1], .agg #[.int .u32 a0_2, .int .i64 a0_3]] (by first | rfl | exact wanted_on rfl rfl rfl (by first | rfl | (simp [*]; done) | (simp [*, IntKind.wrap_u32]; done))) rfl rfl (by (try simp only [List.map_toArray, List.map_cons, List.map_nil]); first | done | rfl | (simp only [List.length_drop, List.length_take]; rfl)) ?_
              with_reducible refine (addrs_Near.calls kj57 a0_0 a0_1 a0_2 a0_3 true _ A217.out).mono ?_
              rintro e w225 ⟨rfl, hb⟩
              refine ⟨_, rfl, ?_⟩
              replace BK269 := Aside0.mk (blk_below (g := gb269) (o := .cells #[.int .u32 a0_0, .int .i64 a0_1, .int .u32 a0_2, .int .i64 a0_3] 36 (0, 0)) (by (with_reducible repeat (first | refine blk_drewN ?_ _ | refine blk_drew ?_ | refine blk_alloc ?_ _)); exact BK269.out) hb)
              replace BK270 := Aside0.mk (blk_below (g := gb270) (o := .cells #[.int .u32 a0_0, .int .i64 a0_1] 34 (0, 0)) (by (with_reducible repeat (first | refine blk_drewN ?_ _ | refine blk_drew ?_ | refine blk_alloc ?_ _)); exact BK270.out) hb)
              replace BK271 := Aside0.mk (blk_below (g := gb271) (o := .cells #[.int .u32 a0_2, .int .i64 a0_3] 34 (0, 0)) (by (with_reducible repeat (first | refine blk_drewN ?_ _ | refine blk_drew ?_ | refine blk_alloc ?_ _)); exact BK271.out) hb)
              replace HB := Aside0.mk (below_step (by repeat (first | (with_reducible first | exact HB.out | apply below_alloc | apply pw_below_drewN | apply below_drew1 | refine below_set ?_ GE269.out | refine below_set ?_ GE270.out | refine below_set ?_ GE271.out) | exact HB.out)) hb)
              (try clear hb)
              (try clear hb2)
              (try clear hk)
              (try clear hi)
              refine hK.out _ _ (by exact ⟨(blk_cell BK270.out 0).trans rfl, (blk_cell BK270.out 1).trans rfl, (blk_cell BK271.out 0).trans rfl, (blk_cell BK271.out 1).trans rfl⟩) (fun hHeld => ?_)
              clear hK K
              refine norm_ (a' := ?_) ?_ ?_
              rotate_left
              ·exact z32_5
              refine pu_139 (i := 23) (N := some 93) (ba 37 1895825407) ?_
              refine tk_15c (i := 24) (N := some 94) (ba 37 1912602623) hHeld ?_
              refine tk_15c (i := 25) (N := some 95) (ba 37 1946157055) hHeld ?_
              refine one_ (i := 26) (N := some 96) (ba 37 2013265919) rfl rfl (one_of HT_.out (by kernel_rfl)) (by decide) (fun K hK => ?_)
              refine goes_ Tryz.func28 (by kernel_rfl) rfl #[.agg #[.int .u32 a0_2, .int .i64 a0_3], .agg #[.int .u32 a0_0, .int .i64 a0_1]] (by first | rfl | exact wanted_on rfl rfl rfl (by first | rfl | (simp [*]; done) | (simp [*, IntKind.wrap_u32]; done))) rfl rfl (by (try simp only [List.map_toArray, List.map_cons, List.map_nil]); first | done | rfl | (simp only [List.length_drop, List.length_take]; rfl)) ?_
              with_reducible refine (addrs_Near.calls kj57 a0_2 a0_3 a0_0 a0_1 t299 _ A219.out).mono ?_
              rintro e w226 ⟨rfl, hb⟩
              refine ⟨_, rfl, ?_⟩
              replace BK269 := Aside0.mk (blk_below (g := gb269) (o := .cells #[.int .u32 a0_0, .int .i64 a0_1, .int .u32 a0_2, .int .i64 a0_3] 36 (0, 0)) (by (with_reducible repeat (first | refine blk_drewN ?_ _ | refine blk_drew ?_ | refine blk_alloc ?_ _)); exact BK269.out) hb)
              replace BK270 := Aside0.mk (blk_below (g := gb270) (o := .cells #[.int .u32 a0_0, .int .i64 a0_1] 34 (0, 0)) (by (with_reducible repeat (first | refine blk_drewN ?_ _ | refine blk_drew ?_ | refine blk_alloc ?_ _)); exact BK270.out) hb)
              replace BK271 := Aside0.mk (blk_below (g := gb271) (o := .cells #[.int .u32 a0_2, .int .i64 a0_3] 34 (0, 0)) (by (with_reducible repeat (first | refine blk_drewN ?_ _ | refine blk_drew ?_ | refine blk_alloc ?_ _)); exact BK271.out) hb)
              replace HB := Aside0.mk (below_step (by repeat (first | (with_reducible first | exact HB.out | apply below_alloc | apply pw_below_drewN | apply below_drew1 | refine below_set ?_ GE269.out | refine below_set ?_ GE270.out | refine below_set ?_ GE271.out) | exact HB.out)) hb)
              (try clear hb)
              (try clear hb2)
              (try clear hk)
              (try clear hi)
              refine hK.out _ _ (by exact ⟨(blk_cell BK270.out 0).trans rfl, (blk_cell BK270.out 1).trans rfl, (blk_cell BK271.out 0).trans rfl, (blk_cell BK271.out 1).trans rfl⟩) (fun hHeld => ?_)
              clear hK K
              refine norm_ (a' := ?_) ?_ ?_
              rotate_left
              ·exact z32_7
              refine pu_139 (i := 27) (N := some 97) (ba 37 2147483647) ?_
              refine pu_139 (i := 31) (N := some 101) (ba 37 4294967295) ?_
              refine pu_139 (i := 32) (N := some 102) (ba 37 8589934591) ?_
              refine pu_139 (i := 33) (N := some 103) (ba 37 17179869183) ?_
              refine one_ (i := 34) (N := some 104) (ba 37 34359738367) rfl rfl (one_of HT_.out (by kernel_rfl)) (by decide) (fun K hK => ?_)
              refine goes_ Tryz.func13 (by kernel_rfl) rfl #[] (by first | rfl | exact wanted_on rfl rfl rfl (by first | rfl | (simp [*]; done) | (simp [*, IntKind.wrap_u32]; done))) rfl rfl (by (try simp only [List.map_toArray, List.map_cons, List.map_nil]); first | done | rfl | (simp only [List.length_drop, List.length_take]; rfl)) ?_
              with_reducible refine (gangwaylaw02_fixed.calls kj57  t300 _ ?sideL A221.out).mono ?_
              case sideL => exact laid_below HLD.out (by repeat (first | (with_reducible first | exact HB.out | apply below_alloc | apply pw_below_drewN | apply below_drew1 | refine below_set ?_ GE269.out | refine below_set ?_ GE270.out | refine below_set ?_ GE271.out) | exact HB.out))
              rintro e w227 ⟨rfl, hb⟩
              refine ⟨_, rfl, ?_⟩
              replace BK269 := Aside0.mk (blk_below (g := gb269) (o := .cells #[.int .u32 a0_0, .int .i64 a0_1, .int .u32 a0_2, .int .i64 a0_3] 36 (0, 0)) (by (with_reducible repeat (first | refine blk_drewN ?_ _ | refine blk_drew ?_ | refine blk_alloc ?_ _)); exact BK269.out) hb)
              replace BK270 := Aside0.mk (blk_below (g := gb270) (o := .cells #[.int .u32 a0_0, .int .i64 a0_1] 34 (0, 0)) (by (with_reducible repeat (first | refine blk_drewN ?_ _ | refine blk_drew ?_ | refine blk_alloc ?_ _)); exact BK270.out) hb)
              replace BK271 := Aside0.mk (blk_below (g := gb271) (o := .cells #[.int .u32 a0_2, .int .i64 a0_3] 34 (0, 0)) (by (with_reducible repeat (first | refine blk_drewN ?_ _ | refine blk_drew ?_ | refine blk_alloc ?_ _)); exact BK271.out) hb)
              replace HB := Aside0.mk (below_step (by repeat (first | (with_reducible first | exact HB.out | apply below_alloc | apply pw_below_drewN | apply below_drew1 | refine below_set ?_ GE269.out | refine below_set ?_ GE270.out | refine below_set ?_ GE271.out) | exact HB.out)) hb)
              (try clear hb)
              (try clear hb2)
              (try clear hk)
              (try clear hi)
              refine hK.out _ _ (by exact ⟨(blk_cell BK270.out 0).trans rfl, (blk_cell BK270.out 1).trans rfl, (blk_cell BK271.out 0).trans rfl, (blk_cell BK271.out 1).trans rfl⟩) (fun hHeld => ?_)
              clear hK K
              refine norm_ (a' := ?_) ?_ ?_
              rotate_left
              ·exact z32_2
              refine pu_139 (i := 35) (N := some 105) (ba 37 68719476735) ?_
              refine pu_139 (i := 36) (N := some 4) (ba 37 137438953471) ?_
              refine done_ (done_of HT_.out (by kernel_rfl)) ?_
              try go_wp2
              go_ret
              exact ⟨(by first | rfl | (simp [errW_none, errW_some] <;> rfl) | (simp [*, errW_none, errW_some] <;> rfl) | (simp [*, IntKind.wrap_u32]; done) | (simp_all [IntKind.wrap_u32]; done)), (by repeat (first | (with_reducible first | exact HB.out | apply below_alloc | apply pw_below_drewN | apply below_drew1 | refine below_set ?_ GE269.out | refine below_set ?_ GE270.out | refine below_set ?_ GE271.out) | exact HB.out))⟩
             ·rw [if_neg c220] at H
              have c220b0 : (t299 == (a0_0 == a0_2 && (a0_1 == a0_3))) = false := by simpa using c220
              (try (have c220b1 : decide (t299 = (a0_0 == a0_2 && (a0_1 == a0_3))) = false := by simpa using c220))
              (try (have c220b2 : (t299 == (a0_0 == a0_2 && (a0_1 == a0_3))) = false := by simpa using c220))
              (try (have c220b3 : ¬ (t299 = (a0_0 == a0_2 && (a0_1 == a0_3))) := by simpa using c220))
              clear c220
              exact absurd H (by simp)
            ·replace c218 := Bool.eq_false_iff.mpr c218
             subst c218
             rw [if_neg (show ¬ (false = true) by decide)] at H
             by_cases c228 : (false == (a0_0 == a0_2 && (a0_1 == a0_3))) = true
             ·rw [if_pos c228] at H
              have c228b0 : (false == (a0_0 == a0_2 && (a0_1 == a0_3))) = true := c228
              (try (have c228b1 : decide (false = (a0_0 == a0_2 && (a0_1 == a0_3))) = true := by simpa using c228))
              (try (have c228b2 : (false == (a0_0 == a0_2 && (a0_1 == a0_3))) = true := by simpa using c228))
              clear c228
              replace H := Option.bind_eq_some_iff.mp H
              obtain ⟨t301, A2290, H⟩ := H
              try dsimp only at H
              have A229 := Aside0.mk A2290
              clear A2290
              obtain rfl := Option.some.inj H
              try go_wp2
              replace BK269 := Aside0.mk (blk_drew BK269.out)
              replace BK270 := Aside0.mk (blk_drew BK270.out)
              replace BK271 := Aside0.mk (blk_drew BK271.out)
              replace HB := Aside0.mk (below_drew1 HB.out)
              refine start_ (n := 37) (S := fun w' => w'.cell? ⟨gb270, 0, none⟩ = some (.int .u32 a0_0) ∧ w'.cell? ⟨gb270, 1, none⟩ = some (.int .i64 a0_1) ∧ w'.cell? ⟨gb271, 0, none⟩ = some (.int .u32 a0_2) ∧ w'.cell? ⟨gb271, 1, none⟩ = some (.int .i64 a0_3)) (ds := []) (ba 37 0) (by kernel_rfl) rfl rfl ⟨(blk_cell BK270.out 0).trans rfl, (blk_cell BK270.out 1).trans rfl, (blk_cell BK271.out 0).trans rfl, (blk_cell BK271.out 1).trans rfl⟩ (fun hHeld => ?_); refine with_tabW gangwaylaw02_AddrsNets.tab7 gangwaylaw02_AddrsNets.bits7 (fun HT_ HW_ => ?_)
              generalize wc.drew = w230 at BK269 BK270 BK271 HB hHeld ⊢
              refine pu_139 (i := 1) (N := some 71) (ba 37 2) ?_
              refine pu_139 (i := 3) (N := some 73) (ba 37 10) ?_
              refine pu_139 (i := 4) (N := some 74) (ba 37 26) ?_
              refine tk_15c (i := 0) (N := some 70) (ba 37 27) hHeld ?_
              refine tk_15c (i := 5) (N := some 75) (ba 37 59) hHeld ?_
              refine pu_139 (i := 6) (N := some 76) (ba 37 123) ?_
              refine one_ (i := 2) (N := some 72) (ba 37 127) rfl rfl (one_of HT_.out (by kernel_rfl)) (by decide) (fun K hK => ?_)
              refine goes_ Tryz.func24 (by kernel_rfl) rfl #[.agg #[.int .u32 a0_0, .int .i64 a0_1], .int .u32 a1] (by first | rfl | exact wanted_on rfl rfl rfl (by first | rfl | (simp [*]; done) | (simp [*, IntKind.wrap_u32]; done))) rfl rfl (by (try simp only [List.map_toArray, List.map_cons, List.map_nil]); first | done | rfl | (simp only [List.length_drop, List.length_take]; rfl)) ?_
              with_reducible refine (addrs_In.calls kj57 a0_0 a0_1 a1 t290 _ A188.out).mono ?_
              rintro e w231 ⟨rfl, hb⟩
              refine ⟨_, rfl, ?_⟩
              replace BK269 := Aside0.mk (blk_below (g := gb269) (o := .cells #[.int .u32 a0_0, .int .i64 a0_1, .int .u32 a0_2, .int .i64 a0_3] 36 (0, 0)) (by (with_reducible repeat (first | refine blk_drewN ?_ _ | refine blk_drew ?_ | refine blk_alloc ?_ _)); exact BK269.out) hb)
              replace BK270 := Aside0.mk (blk_below (g := gb270) (o := .cells #[.int .u32 a0_0, .int .i64 a0_1] 34 (0, 0)) (by (with_reducible repeat (first | refine blk_drewN ?_ _ | refine blk_drew ?_ | refine blk_alloc ?_ _)); exact BK270.out) hb)
              replace BK271 := Aside0.mk (blk_below (g := gb271) (o := .cells #[.int .u32 a0_2, .int .i64 a0_3] 34 (0, 0)) (by (with_reducible repeat (first | refine blk_drewN ?_ _ | refine blk_drew ?_ | refine blk_alloc ?_ _)); exact BK271.out) hb)
              replace HB := Aside0.mk (below_step (by repeat (first | (with_reducible first | exact HB.out | apply below_alloc | apply pw_below_drewN | apply below_drew1 | refine below_set ?_ GE269.out | refine below_set ?_ GE270.out | refine below_set ?_ GE271.out) | exact HB.out)) hb)
              (try clear hb)
              (try clear hb2)
              (try clear hk)
              (try clear hi)
              refine hK.out _ _ (by exact ⟨(blk_cell BK270.out 0).trans rfl, (blk_cell BK270.out 1).trans rfl, (blk_cell BK271.out 0).trans rfl, (blk_cell BK271.out 1).trans rfl⟩) (fun hHeld => ?_)
              clear hK K
              refine norm_ (a' := ?_) ?_ ?_
              rotate_left
              ·exact z32_3
              refine pu_139 (i := 7) (N := some 77) (ba 37 255) ?_
              refine pure_ (i := 8) (N := some 78) (v := undef) (a' := ?_) (ba 37 511) rfl rfl (any_of HT_.out (by kernel_rfl)) (fun _ _ _ h => h) (Or.inr ⟨(by first | rfl | exact wanted_off rfl rfl rfl (by first | rfl | (simp [*]; done) | (simp [*, IntKind.wrap_u32]; done) | (simp_all [IntKind.wrap_u32]; done))), rfl⟩) ?_ ?_
              rotate_left
              ·exact z32_0
              refine pure_ (i := 9) (N := some 79) (v := undef) (a' := ?_) (ba 37 1023) rfl rfl (any_of HT_.out (by kernel_rfl)) (fun _ _ _ h => h) (Or.inr ⟨(by first | rfl | exact wanted_off rfl rfl rfl (by first | rfl | (simp [*]; done) | (simp [*, IntKind.wrap_u32]; done) | (simp_all [IntKind.wrap_u32]; done))), rfl⟩) ?_ ?_
              rotate_left
              ·exact z32_0
              refine pure_ (i := 10) (N := some 80) (v := undef) (a' := ?_) (ba 37 2047) rfl rfl (any_of HT_.out (by kernel_rfl)) (fun _ _ _ h => h) (Or.inr ⟨(by first | rfl | exact wanted_off rfl rfl rfl (by first | rfl | (simp [*]; done) | (simp [*, IntKind.wrap_u32]; done) | (simp_all [IntKind.wrap_u32]; done))), rfl⟩) ?_ ?_
              rotate_left
              ·exact z32_0
              refine pure_ (i := 11) (N := some 81) (v := undef) (a' := ?_) (ba 37 4095) rfl rfl (any_of HT_.out (by kernel_rfl)) (fun _ _ _ h => h) (Or.inr ⟨(by first | rfl | exact wanted_off rfl rfl rfl (by first | rfl | (simp [*]; done) | (simp [*, IntKind.wrap_u32]; done) | (simp_all [IntKind.wrap_u32]; done))), rfl⟩) ?_ ?_
              rotate_left
              ·exact z32_0
              refine pu_139 (i := 12) (N := some 82) (ba 37 8191) ?_
              refine pu_139 (i := 13) (N := some 83) (ba 37 16383) ?_
              refine pu_139 (i := 14) (N := some 84) (ba 37 32767) ?_
              refine tk_15c (i := 15) (N := some 85) (ba 37 65535) hHeld ?_
              refine tk_15c (i := 16) (N := some 86) (ba 37 131071) hHeld ?_
              refine one_ (i := 17) (N := some 87) (ba 37 262143) rfl rfl (one_of HT_.out (by kernel_rfl)) (by decide) (fun K hK => ?_)
              refine goes_ Tryz.func28 (by kernel_rfl) rfl #[.agg #[.int .u32 a0_0, .int .i64 a0_1], .agg #[.int .u32 a0_0, .int .i64 a0_1]] (by first | rfl | exact wanted_on rfl rfl rfl (by first | rfl | (simp [*]; done) | (simp [*, IntKind.wrap_u32]; done))) rfl rfl (by (try simp only [List.map_toArray, List.map_cons, List.map_nil]); first | done | rfl | (simp only [List.length_drop, List.length_take]; rfl)) ?_
              with_reducible refine (addrs_Near.calls kj57 a0_0 a0_1 a0_0 a0_1 true _ A215.out).mono ?_
              rintro e w232 ⟨rfl, hb⟩
              refine ⟨_, rfl, ?_⟩
              replace BK269 := Aside0.mk (blk_below (g := gb269) (o := .cells #[.int .u32 a0_0, .int .i64 a0_1, .int .u32 a0_2, .int .i64 a0_3] 36 (0, 0)) (by (with_reducible repeat (first | refine blk_drewN ?_ _ | refine blk_drew ?_ | refine blk_alloc ?_ _)); exact BK269.out) hb)
              replace BK270 := Aside0.mk (blk_below (g := gb270) (o := .cells #[.int .u32 a0_0, .int .i64 a0_1] 34 (0, 0)) (by (with_reducible repeat (first | refine blk_drewN ?_ _ | refine blk_drew ?_ | refine blk_alloc ?_ _)); exact BK270.out) hb)
              replace BK271 := Aside0.mk (blk_below (g := gb271) (o := .cells #[.int .u32 a0_2, .int .i64 a0_3] 34 (0, 0)) (by (with_reducible repeat (first | refine blk_drewN ?_ _ | refine blk_drew ?_ | refine blk_alloc ?_ _)); exact BK271.out) hb)
              replace HB := Aside0.mk (below_step (by repeat (first | (with_reducible first | exact HB.out | apply below_alloc | apply pw_below_drewN | apply below_drew1 | refine below_set ?_ GE269.out | refine below_set ?_ GE270.out | refine below_set ?_ GE271.out) | exact HB.out)) hb)
              (try clear hb)
              (try clear hb2)
              (try clear hk)
              (try clear hi)
              refine hK.out _ _ (by exact ⟨(blk_cell BK270.out 0).trans rfl, (blk_cell BK270.out 1).trans rfl, (blk_cell BK271.out 0).trans rfl, (blk_cell BK271.out 1).trans rfl⟩) (fun hHeld => ?_)
              clear hK K
              refine norm_ (a' := ?_) ?_ ?_
              rotate_left
              ·exact z32_4
              refine pu_139 (i := 18) (N := some 88) (ba 37 524287) ?_
              refine pu_139 (i := 19) (N := some 89) (ba 37 1048575) ?_
              refine tk_15c (i := 20) (N := some 90) (ba 37 2097151) hHeld ?_
              refine tk_15c (i := 21) (N := some 91) (ba 37 4194303) hHeld ?_
              refine tk_15c (i := 28) (N := some 98) (ba 37 272629759) hHeld ?_
              refine tk_15c (i := 29) (N := some 99) (ba 37 809500671) hHeld ?_
              refine pu_139 (i := 30) (N := some 100) (ba 37 1883242495) ?_
              refine one_ (i := 22) (N := some 92) (ba 37 1887436799) rfl rfl (one_of HT_.out (by kernel_rfl)) (by decide) (fun K hK => ?_)
              refine goes_ Tryz.func28 (by kernel_rfl) rfl #[.agg #[.int .u32 a0_0, .int .i64 a0_1], .agg #[.int .u32 a0_2, .int .i64 a0_3]] (by first | rfl | exact wanted_on rfl rfl rfl (by first | rfl | (simp [*]; done) | (simp [*, IntKind.wrap_u32]; done))) rfl rfl (by (try simp only [List.map_toArray, List.map_cons, List.map_nil]); first | done | rfl | (simp only [List.length_drop, List.length_take]; rfl)) ?_
              with_reducible refine (addrs_Near.calls kj57 a0_0 a0_1 a0_2 a0_3 false _ A217.out).mono ?_
              rintro e w233 ⟨rfl, hb⟩
              refine ⟨_, rfl, ?_⟩
              replace BK269 := Aside0.mk (blk_below (g := gb269) (o := .cells #[.int .u32 a0_0, .int .i64 a0_1, .int .u32 a0_2, .int .i64 a0_3] 36 (0, 0)) (by (with_reducible repeat (first | refine blk_drewN ?_ _ | refine blk_drew ?_ | refine blk_alloc ?_ _)); exact BK269.out) hb)
              replace BK270 := Aside0.mk (blk_below (g := gb270) (o := .cells #[.int .u32 a0_0, .int .i64 a0_1] 34 (0, 0)) (by (with_reducible repeat (first | refine blk_drewN ?_ _ | refine blk_drew ?_ | refine blk_alloc ?_ _)); exact BK270.out) hb)
              replace BK271 := Aside0.mk (blk_below (g := gb271) (o := .cells #[.int .u32 a0_2, .int .i64 a0_3] 34 (0, 0)) (by (with_reducible repeat (first | refine blk_drewN ?_ _ | refine blk_drew ?_ | refine blk_alloc ?_ _)); exact BK271.out) hb)
              replace HB := Aside0.mk (below_step (by repeat (first | (with_reducible first | exact HB.out | apply below_alloc | apply pw_below_drewN | apply below_drew1 | refine below_set ?_ GE269.out | refine below_set ?_ GE270.out | refine below_set ?_ GE271.out) | exact HB.out)) hb)
              (try clear hb)
              (try clear hb2)
              (try clear hk)
              (try clear hi)
              refine hK.out _ _ (by exact ⟨(blk_cell BK270.out 0).trans rfl, (blk_cell BK270.out 1).trans rfl, (blk_cell BK271.out 0).trans rfl, (blk_cell BK271.out 1).trans rfl⟩) (fun hHeld => ?_)
              clear hK K
              refine norm_ (a' := ?_) ?_ ?_
              rotate_left
              ·exact z32_5
              refine pu_139 (i := 23) (N := some 93) (ba 37 1895825407) ?_
              refine pure_ (i := 24) (N := some 94) (v := undef) (a' := ?_) (ba 37 1912602623) rfl rfl (any_of HT_.out (by kernel_rfl)) (fun _ _ _ h => h) (Or.inr ⟨(by first | rfl | exact wanted_off rfl rfl rfl (by first | rfl | (simp [*]; done) | (simp [*, IntKind.wrap_u32]; done) | (simp_all [IntKind.wrap_u32]; done))), rfl⟩) ?_ ?_
              rotate_left
              ·exact z32_0
              refine pure_ (i := 25) (N := some 95) (v := undef) (a' := ?_) (ba 37 1946157055) rfl rfl (any_of HT_.out (by kernel_rfl)) (fun _ _ _ h => h) (Or.inr ⟨(by first | rfl | exact wanted_off rfl rfl rfl (by first | rfl | (simp [*]; done) | (simp [*, IntKind.wrap_u32]; done) | (simp_all [IntKind.wrap_u32]; done))), rfl⟩) ?_ ?_
              rotate_left
              ·exact z32_0
              refine pure_ (i := 26) (N := some 96) (v := undef) (a' := ?_) (ba 37 2013265919) rfl rfl (any_of HT_.out (by kernel_rfl)) (fun _ _ _ h => h) (Or.inr ⟨(by first | rfl | exact wanted_off rfl rfl rfl (by first | rfl | (simp [*]; done) | (simp [*, IntKind.wrap_u32]; done) | (simp_all [IntKind.wrap_u32]; done))), rfl⟩) ?_ ?_
              rotate_left
              ·exact z32_0
              refine pu_139 (i := 27) (N := some 97) (ba 37 2147483647) ?_
              refine pu_139 (i := 31) (N := some 101) (ba 37 4294967295) ?_
              refine pu_139 (i := 32) (N := some 102) (ba 37 8589934591) ?_
              refine pu_139 (i := 33) (N := some 103) (ba 37 17179869183) ?_
              refine one_ (i := 34) (N := some 104) (ba 37 34359738367) rfl rfl (one_of HT_.out (by kernel_rfl)) (by decide) (fun K hK => ?_)
              refine goes_ Tryz.func13 (by kernel_rfl) rfl #[] (by first | rfl | exact wanted_on rfl rfl rfl (by first | rfl | (simp [*]; done) | (simp [*, IntKind.wrap_u32]; done))) rfl rfl (by (try simp only [List.map_toArray, List.map_cons, List.map_nil]); first | done | rfl | (simp only [List.length_drop, List.length_take]; rfl)) ?_
              with_reducible refine (gangwaylaw02_fixed.calls kj57  t301 _ ?sideL A229.out).mono ?_
              case sideL => exact laid_below HLD.out (by repeat (first | (with_reducible first | exact HB.out | apply below_alloc | apply pw_below_drewN | apply below_drew1 | refine below_set ?_ GE269.out | refine below_set ?_ GE270.out | refine below_set ?_ GE271.out) | exact HB.out))
              rintro e w234 ⟨rfl, hb⟩
              refine ⟨_, rfl, ?_⟩
              replace BK269 := Aside0.mk (blk_below (g := gb269) (o := .cells #[.int .u32 a0_0, .int .i64 a0_1, .int .u32 a0_2, .int .i64 a0_3] 36 (0, 0)) (by (with_reducible repeat (first | refine blk_drewN ?_ _ | refine blk_drew ?_ | refine blk_alloc ?_ _)); exact BK269.out) hb)
              replace BK270 := Aside0.mk (blk_below (g := gb270) (o := .cells #[.int .u32 a0_0, .int .i64 a0_1] 34 (0, 0)) (by (with_reducible repeat (first | refine blk_drewN ?_ _ | refine blk_drew ?_ | refine blk_alloc ?_ _)); exact BK270.out) hb)
              replace BK271 := Aside0.mk (blk_below (g := gb271) (o := .cells #[.int .u32 a0_2, .int .i64 a0_3] 34 (0, 0)) (by (with_reducible repeat (first | refine blk_drewN ?_ _ | refine blk_drew ?_ | refine blk_alloc ?_ _)); exact BK271.out) hb)
              replace HB := Aside0.mk (below_step (by repeat (first | (with_reducible first | exact HB.out | apply below_alloc | apply pw_below_drewN | apply below_drew1 | refine below_set ?_ GE269.out | refine below_set ?_ GE270.out | refine below_set ?_ GE271.out) | exact HB.out)) hb)
              (try clear hb)
              (try clear hb2)
              (try clear hk)
              (try clear hi)
              refine hK.out _ _ (by exact ⟨(blk_cell BK270.out 0).trans rfl, (blk_cell BK270.out 1).trans rfl, (blk_cell BK271.out 0).trans rfl, (blk_cell BK271.out 1).trans rfl⟩) (fun hHeld => ?_)
              clear hK K
              refine norm_ (a' := ?_) ?_ ?_
              rotate_left
              ·exact z32_2
              refine pu_139 (i := 35) (N := some 105) (ba 37 68719476735) ?_
              refine pu_139 (i := 36) (N := some 4) (ba 37 137438953471) ?_
              refine done_ (done_of HT_.out (by kernel_rfl)) ?_
              try go_wp2
              go_ret
              exact ⟨(by first | rfl | (simp [errW_none, errW_some] <;> rfl) | (simp [*, errW_none, errW_some] <;> rfl) | (simp [*, IntKind.wrap_u32]; done) | (simp_all [IntKind.wrap_u32]; done)), (by repeat (first | (with_reducible first | exact HB.out | apply below_alloc | apply pw_below_drewN | apply below_drew1 | refine below_set ?_ GE269.out | refine below_set ?_ GE270.out | refine below_set ?_ GE271.out) | exact HB.out))⟩
             ·rw [if_neg c228] at H
              have c228b0 : (false == (a0_0 == a0_2 && (a0_1 == a0_3))) = false := by simpa using c228
              (try (have c228b1 : decide (false = (a0_0 == a0_2 && (a0_1 == a0_3))) = false := by simpa using c228))
              (try (have c228b2 : (false == (a0_0 == a0_2 && (a0_1 == a0_3))) = false := by simpa using c228))
              (try (have c228b3 : ¬ (false = (a0_0 == a0_2 && (a0_1 == a0_3))) := by simpa using c228))
              clear c228
              exact absurd H (by simp)
           ·replace c216 := Bool.eq_false_iff.mpr c216
            subst c216
            rw [if_neg (show ¬ (false = true) by decide)] at H
            exact absurd H (by simp)
          ·rw [if_neg c214] at H
           have c214b0 : (t290 == false) = false := by simpa using c214
           (try (have c214b1 : decide (t290 = false) = false := by simpa using c214))
           (try (have c214b2 : (t290 == false) = false := by simpa using c214))
           (try (have c214b3 : ¬ (t290 = false) := by simpa using c214))
           clear c214
           exact absurd H (by simp)
end Go.Proofs.YtgdjekigkimhnaaGreatDoor.P
