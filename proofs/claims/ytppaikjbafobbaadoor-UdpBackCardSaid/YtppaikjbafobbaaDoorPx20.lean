-- Written by wip/hprint.py (this session's program) through the kit's print program; hand contracts are marked 'by hand'.
import Derived.Test.YtppaikjbafobbaaDoorPx0
import Derived.Test.YtppaikjbafobbaaDoorPx1
import Derived.Test.YtppaikjbafobbaaDoorPx2
import Derived.Test.YtppaikjbafobbaaDoorPx7
import Derived.Test.YtppaikjbafobbaaDoorPx14
import Derived.Test.YtppaikjbafobbaaDoorPx15
namespace Go.Proofs.YtppaikjbafobbaaDoor.P
open Go.RowKit Go.Proofs.YtppaikjbafobbaaDoorW.PrintWords Go.Proofs.YtppaikjbafobbaaDoorW.PrintLast Go.Proofs.YtppaikjbafobbaaDoorW.PrintMore
attribute [local go_sem] max2_int min2_int max_two min_two max_three min_three max_four min_four   -- for this text's walks alone
set_option linter.unusedVariables false
set_option linter.unusedSimpArgs false

attribute [local go_sem high] eqA26
/-! ### gangwaylaw07_UdpBack: function 5 -/
def gangwaylaw07_UdpBack.j0 : Nat → ByteArray → Int → Int → Int → Int → Bool → ByteArray → Option (Bool)
  | 0, _, _, _, _, _, _, _ => none
  | k + 1, x2, x239000, x239001, x240000, x240001, x240002, x240003 => (udp_Build.f k x239000 x239001 x240000 x240001 x240002 x240003).bind fun bt244 => (if bt244.2 = 0 then (if (bt244.1.size : Int) < 8 then (none) else (if bt244.1.size + x2.size ≤ 9223372036854775807 then ((udp_Parse.f k x239000 x239001 (bt244.1 ++ x2)).bind fun bt247 => ((udp_Parse.f k x239001 x239000 (bt244.1 ++ x2)).bind fun bt253 => (if 0 ≤ (wrap64 ((bt244.1.size : Int) - 1)) then (if (wrap64 ((bt244.1.size : Int) - 1)) ≤ (bt244.1.size : Int) then ((udp_Parse.f k x239000 x239001 (bt244.1.extract 0 ((wrap64 ((bt244.1.size : Int) - 1)) : Int).toNat)).bind fun bt259 => (if bt247.2.2.2.2 = 0 then (if (bt247.1 == x240000 && (bt247.2.1 == x240001 && (bt247.2.2.1 == x240002 && (bt247.2.2.2.1.toList == x240003.toList)))) = true then (if bt253.2.2.2.2 = 0 then (if (bt253.1 == x240000 && (bt253.2.1 == x240001 && (bt253.2.2.1 == x240002 && (bt253.2.2.2.1.toList == x240003.toList)))) = true then (if bt259.2.2.2.2 = 70 then ((gangwaylaw07_fixed.f k).bind fun t265 => (some t265)) else (none)) else (none)) else (none)) else (none)) else (none))) else (none)) else (none)))) else (none))) else (if bt244.1.toList = ([] : List UInt8) then ((gangwaylaw07_fixed.f k).bind fun t246 => (some t246)) else (none)))
def gangwaylaw07_UdpBack.f (k : Nat) (a0_0 : Int) (a0_1 : Int) (a1_0 : Int) (a1_1 : Int) (a1_2 : Bool) (a1_3 : ByteArray) (a2 : ByteArray) : Option (Bool) := (gangwaylaw07_cut.f a1_0 a1_1 a1_2 a1_3).bind fun bt240 => (if 0 ≤ (mn (a2.size : Int) 1700) then (if (mn (a2.size : Int) 1700) ≤ (a2.size : Int) then (gangwaylaw07_UdpBack.j0 k (a2.extract 0 ((mn (a2.size : Int) 1700) : Int).toNat) a0_0 a0_1 bt240.1 bt240.2.1 bt240.2.2.1 bt240.2.2.2) else (none)) else (none))
theorem gangwaylaw07_UdpBack.mono_l : ∀ k, (∀ y0 y1 y2 y3 y4 y5 y6, LeO (gangwaylaw07_UdpBack.j0 k y0 y1 y2 y3 y4 y5 y6) (gangwaylaw07_UdpBack.j0 (k + 1) y0 y1 y2 y3 y4 y5 y6))
  | 0 => fun _ _ _ _ _ _ _ r h => by simp [gangwaylaw07_UdpBack.j0] at h
  | k + 1 => by
    have ih0 := gangwaylaw07_UdpBack.mono_l k
    · intro y0 y1 y2 y3 y4 y5 y6
      unfold gangwaylaw07_UdpBack.j0
      repeat' first
      | (with_reducible exact ih0 _ _ _ _ _ _ _)
      | (with_reducible exact gangwaylaw07_fixed.mono _)
      | (with_reducible exact udp_Build.mono _ _ _ _ _ _ _)
      | (with_reducible exact udp_Parse.mono _ _ _ _)
      | (with_reducible exact LeO.refl _)
      | (with_reducible exact LeO.none _)
      | (with_reducible refine LeO.ite ?_ ?_)
      | (with_reducible refine LeO.bind ?_ (fun _ => ?_))
      | exact ih0 _ _ _ _ _ _ _
      | exact gangwaylaw07_fixed.mono _
      | exact udp_Build.mono _ _ _ _ _ _ _
      | exact udp_Parse.mono _ _ _ _
      | exact LeO.none _
      | refine LeO.ite ?_ ?_
      | refine LeO.bind ?_ (fun _ => ?_)
theorem gangwaylaw07_UdpBack.mono : ∀ a0 a1 a2 a3 a4 a5 a6 k, LeO (gangwaylaw07_UdpBack.f k a0 a1 a2 a3 a4 a5 a6) (gangwaylaw07_UdpBack.f (k + 1) a0 a1 a2 a3 a4 a5 a6) := by
  intro a0 a1 a2 a3 a4 a5 a6 k
  have ih0 := gangwaylaw07_UdpBack.mono_l k
  unfold gangwaylaw07_UdpBack.f
  repeat' first
      | (with_reducible exact ih0 _ _ _ _ _ _ _)
      | (with_reducible exact gangwaylaw07_fixed.mono _)
      | (with_reducible exact udp_Build.mono _ _ _ _ _ _ _)
      | (with_reducible exact udp_Parse.mono _ _ _ _)
      | (with_reducible exact LeO.refl _)
      | (with_reducible exact LeO.none _)
      | (with_reducible refine LeO.ite ?_ ?_)
      | (with_reducible refine LeO.bind ?_ (fun _ => ?_))
      | exact ih0 _ _ _ _ _ _ _
      | exact gangwaylaw07_fixed.mono _
      | exact udp_Build.mono _ _ _ _ _ _ _
      | exact udp_Parse.mono _ _ _ _
      | exact LeO.none _
      | refine LeO.ite ?_ ?_
      | refine LeO.bind ?_ (fun _ => ?_)
def gangwaylaw07_UdpBack.T10 : Bool × List (List Nat × List Nat) := (true, [([], []), ([0], [0]), ([], []), ([2], [2]), ([], []), ([], []), ([5], [5]), ([6], [6]), ([4, 7], [4, 7]), ([1, 3, 8], [1, 3, 8]), ([9], [9]), ([10], [10]), ([10], [10]), ([], []), ([13, 11, 9, 0, 1, 2, 3, 4, 5, 6, 7, 8, 9, 10, 11, 13], [11, 13]), ([12, 14, 0, 1, 2, 3, 4, 5, 6, 7, 8, 9, 10, 11, 12, 13, 14], [12])])
def gangwaylaw07_UdpBack.B10 : List Nat := [0, 1, 0, 4, 0, 0, 32, 96, 240, 511, 1023, 2047, 2047, 0, 12287, 32767]
theorem gangwaylaw07_UdpBack.tab10 : rtab .any (opsOf Tryd.f5 10) = gangwaylaw07_UdpBack.T10 := by kernel_rfl
theorem gangwaylaw07_UdpBack.bits10 : waitsOk gangwaylaw07_UdpBack.T10.2 gangwaylaw07_UdpBack.B10 = true := by kernel_rfl
set_option maxHeartbeats 8000000 in
set_option maxRecDepth 100000 in
theorem gangwaylaw07_UdpBack.calls (k : Nat) (a0_0 : Int) (a0_1 : Int) (a1_0 : Int) (a1_1 : Int) (a1_2 : Bool) (a1_3 : ByteArray) (a2 : ByteArray) (r : Bool) (w : World) (h : gangwaylaw07_UdpBack.f k a0_0 a0_1 a1_0 a1_1 a1_2 a1_3 a2 = some r) :
    Calls Tryd.prog 5 #[.agg #[.int .u32 a0_0, .int .u32 a0_1], .agg #[.int .i64 a1_0, .int .i64 a1_1, .bool a1_2, .string a1_3], .string a2] w fun e w' => e = .returned (.bool r) ∧ Below w.heap.size w w' := by
  have hu24 := Tryd.underlying24
  have hu26 := Tryd.underlying26
  have HB := Aside0.mk (Below.refl w.heap.size w)
  have H : ((gangwaylaw07_cut.f a1_0 a1_1 a1_2 a1_3).bind fun bt240 => (if 0 ≤ (mn (a2.size : Int) 1700) then (if (mn (a2.size : Int) 1700) ≤ (a2.size : Int) then (gangwaylaw07_UdpBack.j0 k (a2.extract 0 ((mn (a2.size : Int) 1700) : Int).toNat) a0_0 a0_1 bt240.1 bt240.2.1 bt240.2.2.1 bt240.2.2.2) else (none)) else (none))) = some r := h
  clear h
  replace H := Option.bind_eq_some_iff.mp H
  obtain ⟨⟨t240, t241, t242, t243⟩, A40, H⟩ := H
  replace H : (if 0 ≤ (mn (a2.size : Int) 1700) then (if (mn (a2.size : Int) 1700) ≤ (a2.size : Int) then (gangwaylaw07_UdpBack.j0 k (a2.extract 0 ((mn (a2.size : Int) 1700) : Int).toNat) a0_0 a0_1 t240 t241 t242 t243) else (none)) else (none)) = some r := H
  have A4 := Aside0.mk A40
  clear A40
  have HC5 := Aside0.mk H
  clear H
  go_enter Tryd.func5, Tryd.ntmps5
  go_upto_region 2 with (first | ((with_reducible refine gate_dst (N := 3) rfl ?_); refine box_event ?hg (N := 3) ?hd (cs := #[.int .u32 a0_0, .int .u32 a0_1]) (t := 24) ?hr ?_; (case hd => rfl); (case hg => rfl); (case hr => first | (go_simp; done) | (go_simp; rfl)); intro gb238 hg w6 hbox hb; have n0_ := Aside0.mk (below_step (by repeat (first | (with_reducible first | exact HB.out | apply below_alloc | apply pw_below_drewN | apply below_drew1) | exact HB.out)) hb); have n1_ := Aside0.mk (hbox); have n2_ := Aside0.mk ((by rw [hg]; exact (below_size (by repeat (first | (with_reducible first | exact HB.out | apply below_alloc | apply pw_below_drewN | apply below_drew1) | exact HB.out))) : w.heap.size ≤ gb238)); have n3_ := Aside0.mk ((by rw [hg]; exact (below_size (by repeat (first | (with_reducible first | exact HB.out | apply below_alloc | apply pw_below_drewN | apply below_drew1) | exact HB.out))) : w.heap.size ≤ gb238)); clear HB; have HB := n0_; have BK238 := n1_; have GW238 := n2_; have GE238 := n3_; clear n0_ n1_ n2_ n3_; clear hb hbox hg) | ((with_reducible refine gate_dst (N := 4) rfl ?_); refine box_event ?hg (N := 4) ?hd (cs := #[.int .i64 a1_0, .int .i64 a1_1, .bool a1_2, .string a1_3]) (t := 26) ?hr ?_; (case hd => rfl); (case hg => rfl); (case hr => first | (go_simp; done) | (go_simp; rfl)); intro gb239 hg w7 hbox hb; have n0_ := Aside0.mk (blk_below (g := gb238) (o := .cells #[.int .u32 a0_0, .int .u32 a0_1] 24 (0, 0)) (by (with_reducible repeat (first | refine blk_drewN ?_ _ | refine blk_drew ?_ | refine blk_alloc ?_ _)); exact BK238.out) hb); have n1_ := Aside0.mk (below_step (by repeat (first | (with_reducible first | exact HB.out | apply below_alloc | apply pw_below_drewN | apply below_drew1 | refine below_set ?_ GE238.out) | exact HB.out)) hb); have n2_ := Aside0.mk (hbox); have n3_ := Aside0.mk ((by rw [hg]; exact (below_size (by repeat (first | (with_reducible first | exact HB.out | apply below_alloc | apply pw_below_drewN | apply below_drew1 | refine below_set ?_ GE238.out) | exact HB.out))) : w.heap.size ≤ gb239)); have n4_ := Aside0.mk ((by rw [hg]; exact (below_size (by repeat (first | (with_reducible first | exact HB.out | apply below_alloc | apply pw_below_drewN | apply below_drew1 | refine below_set ?_ GE238.out) | exact HB.out))) : w.heap.size ≤ gb239)); have n5_ := Aside0.mk ((by rw [hg]; exact Nat.ne_of_lt (blk_lt (g := gb238) (o := .cells #[.int .u32 a0_0, .int .u32 a0_1] 24 (0, 0)) (by (with_reducible repeat (first | refine blk_drewN ?_ _ | refine blk_drew ?_ | refine blk_alloc ?_ _)); exact BK238.out)) : gb238 ≠ gb239)); have n6_ := Aside0.mk ((by rw [hg]; exact Nat.ne_of_gt (blk_lt (g := gb238) (o := .cells #[.int .u32 a0_0, .int .u32 a0_1] 24 (0, 0)) (by (with_reducible repeat (first | refine blk_drewN ?_ _ | refine blk_drew ?_ | refine blk_alloc ?_ _)); exact BK238.out)) : gb239 ≠ gb238)); clear BK238; clear HB; have BK238 := n0_; have HB := n1_; have BK239 := n2_; have GW239 := n3_; have GE239 := n4_; have NB238_239 := n5_; have NB239_238 := n6_; clear n0_ n1_ n2_ n3_ n4_ n5_ n6_; clear hb hbox hg; have hnb8 := NB239_238.out; have hnc8 := NB238_239.out; have hcz9_0 : w7.cell? ⟨gb239, 0, none⟩ = some (.int .i64 a1_0) := (blk_cell BK239.out 0).trans rfl; have hcz9_1 : w7.cell? ⟨gb239, 1, none⟩ = some (.int .i64 a1_1) := (blk_cell BK239.out 1).trans rfl; have hcz9_2 : w7.cell? ⟨gb239, 2, none⟩ = some (.bool a1_2) := (blk_cell BK239.out 2).trans rfl; have hcz9_3 : w7.cell? ⟨gb239, 3, none⟩ = some (.string a1_3) := (blk_cell BK239.out 3).trans rfl; have hfz9_0 := blk_frozen BK239.out 0; have hfz9_1 := blk_frozen BK239.out 1; have hfz9_2 := blk_frozen BK239.out 2; have hfz9_3 := blk_frozen BK239.out 3) | ((with_reducible refine gate_callee (f := 8) rfl ?_); refine goesL_ (some 16) rfl rfl Tryd.func8 (by kernel_rfl) rfl #[.agg #[.int .i64 a1_0, .int .i64 a1_1, .bool a1_2, .string a1_3]] rfl (by (try simp only [List.map_toArray, List.map_cons, List.map_nil]); first | done | rfl | (simp only [List.length_drop, List.length_take]; rfl)) ?_; (with_reducible refine (gangwaylaw07_cut.calls a1_0 a1_1 a1_2 a1_3 t240 t241 t242 t243 _ A4.out).mono ?_); rintro e w10 ⟨rfl, hb⟩; refine ⟨_, rfl, ?_⟩; have n0_ := Aside0.mk (blk_below (g := gb238) (o := .cells #[.int .u32 a0_0, .int .u32 a0_1] 24 (0, 0)) (by (with_reducible repeat (first | refine blk_drewN ?_ _ | refine blk_drew ?_ | refine blk_alloc ?_ _)); exact BK238.out) hb); have n1_ := Aside0.mk (blk_below (g := gb239) (o := .cells #[.int .i64 a1_0, .int .i64 a1_1, .bool a1_2, .string a1_3] 26 (0, 0)) (by (with_reducible repeat (first | refine blk_drewN ?_ _ | refine blk_drew ?_ | refine blk_alloc ?_ _)); exact BK239.out) hb); have n2_ := Aside0.mk (below_step (by repeat (first | (with_reducible first | exact HB.out | apply below_alloc | apply pw_below_drewN | apply below_drew1 | refine below_set ?_ GE238.out | refine below_set ?_ GE239.out) | exact HB.out)) hb); clear BK238; clear BK239; clear HB; have BK238 := n0_; have BK239 := n1_; have HB := n2_; clear n0_ n1_ n2_; (try clear hb); (try clear hb2); (try clear hk); (try clear hi); have hcz11_0 : w10.cell? ⟨gb239, 0, none⟩ = some (.int .i64 a1_0) := (blk_cell BK239.out 0).trans rfl; have hcz11_1 : w10.cell? ⟨gb239, 1, none⟩ = some (.int .i64 a1_1) := (blk_cell BK239.out 1).trans rfl; have hcz11_2 : w10.cell? ⟨gb239, 2, none⟩ = some (.bool a1_2) := (blk_cell BK239.out 2).trans rfl; have hcz11_3 : w10.cell? ⟨gb239, 3, none⟩ = some (.string a1_3) := (blk_cell BK239.out 3).trans rfl; have hfz11_0 := blk_frozen BK239.out 0; have hfz11_1 := blk_frozen BK239.out 1; have hfz11_2 := blk_frozen BK239.out 2; have hfz11_3 := blk_frozen BK239.out 3))
  (try simp only [Act.put, List.setIfInBounds_toArray, List.set_cons_zero, List.set_cons_succ])
  go_cut [2] (fun v2 wc => ∃ (kq : Nat) (x2_4 : ByteArray), v2 = .string x2_4 ∧ Aside0 (gangwaylaw07_UdpBack.j0 kq x2_4 a0_0 a0_1 t240 t241 t242 t243 = some r) ∧ Aside0 (kq ≤ k) ∧ Aside0 (wc.heap[gb238]? = some (.cells #[.int .u32 a0_0, .int .u32 a0_1] 24 (0, 0))) ∧ Aside0 (wc.heap[gb239]? = some (.cells #[.int .i64 t240, .int .i64 t241, .bool t242, .string t243] 26 (0, 0))) ∧ Aside0 (Below w.heap.size w wc))
  case first =>
    have H := HC5.out
    clear HC5
    obtain ⟨ji12, hji12⟩ : ∃ j_ : Int, (mn (a2.size : Int) 1700) = j_ := ⟨_, rfl⟩
    replace H : (if 0 ≤ (ji12) then (if (ji12) ≤ (a2.size : Int) then (gangwaylaw07_UdpBack.j0 k (a2.extract 0 ((ji12) : Int).toNat) a0_0 a0_1 t240 t241 t242 t243) else (none)) else (none)) = some r := by first | (rw [hji12] at H; exact H) | (simp only [hji12] at H ⊢; exact H)
    (try (have hji12h : ji12 ≤ 1700 := by (rw [← hji12]; unfold mn; (repeat' split) <;> omega)))
    (try (have hji12g : ji12 ≤ 64 := by omega))
    (try (have hji12l : 0 ≤ ji12 := by (rw [← hji12]; unfold mn; (repeat' split) <;> omega)))
    (try (have hji12m : 0 ≤ ji12 := by omega))
    have hji12_ : (if 1700 < (a2.size : Int) then 1700 else (a2.size : Int)) = ji12 := hji12
    by_cases c13 : 0 ≤ (ji12)
    · rw [if_pos c13] at H
      have c13b0 := eq_true c13
      have c13b1 : decide (0 ≤ (ji12)) = true := decide_eq_true c13
      clear c13
      by_cases c14 : (ji12) ≤ (a2.size : Int)
      · rw [if_pos c14] at H
        have c14b0 := eq_true c14
        have c14b1 : decide ((ji12) ≤ (a2.size : Int)) = true := decide_eq_true c14
        clear c14
        have H' := Aside0.mk H
        clear H
        go_wp2
        go_meet
        case rel => exact ⟨_, (a2.extract 0 ((ji12) : Int).toNat), (by first | rfl | (simp; done) | (simp only [← hji12] <;> (first | rfl | simp)) | (simp [*]; done)), H', ⟨by first | omega | exact Nat.le_refl _⟩, ⟨by (with_reducible repeat (first | refine blk_drewN ?_ _ | refine blk_drew ?_ | refine blk_alloc ?_ _)); refine blk_far ?_ NB238_239.out _; (with_reducible repeat (first | refine blk_drewN ?_ _ | refine blk_drew ?_ | refine blk_alloc ?_ _)); refine blk_far ?_ NB238_239.out _; (with_reducible repeat (first | refine blk_drewN ?_ _ | refine blk_drew ?_ | refine blk_alloc ?_ _)); refine blk_far ?_ NB238_239.out _; (with_reducible repeat (first | refine blk_drewN ?_ _ | refine blk_drew ?_ | refine blk_alloc ?_ _)); refine blk_far ?_ NB238_239.out _; (with_reducible repeat (first | refine blk_drewN ?_ _ | refine blk_drew ?_ | refine blk_alloc ?_ _)); exact BK238.out⟩, ⟨by (with_reducible repeat (first | refine blk_drewN ?_ _ | refine blk_drew ?_ | refine blk_alloc ?_ _)); refine blk_put (cs := #[.int .i64 t240, .int .i64 t241, .bool t242, .string a1_3]) ?_ 3 _ rfl; (with_reducible repeat (first | refine blk_drewN ?_ _ | refine blk_drew ?_ | refine blk_alloc ?_ _)); refine blk_put (cs := #[.int .i64 t240, .int .i64 t241, .bool a1_2, .string a1_3]) ?_ 2 _ rfl; (with_reducible repeat (first | refine blk_drewN ?_ _ | refine blk_drew ?_ | refine blk_alloc ?_ _)); refine blk_put (cs := #[.int .i64 t240, .int .i64 a1_1, .bool a1_2, .string a1_3]) ?_ 1 _ rfl; (with_reducible repeat (first | refine blk_drewN ?_ _ | refine blk_drew ?_ | refine blk_alloc ?_ _)); refine blk_put (cs := #[.int .i64 a1_0, .int .i64 a1_1, .bool a1_2, .string a1_3]) ?_ 0 _ rfl; (with_reducible repeat (first | refine blk_drewN ?_ _ | refine blk_drew ?_ | refine blk_alloc ?_ _)); exact BK239.out⟩, ⟨by repeat (first | (with_reducible first | exact HB.out | apply below_alloc | apply pw_below_drewN | apply below_drew1 | refine below_set ?_ GE238.out | refine below_set ?_ GE239.out) | exact HB.out)⟩⟩
      · rw [if_neg c14] at H
        exact absurd H (by simp)
    · rw [if_neg c13] at H
      exact absurd H (by simp)
  case rest =>
    clear HC5
    try clear c1
    try clear p2
    try clear c5
    try clear c8
    try clear c13
    try clear c13b0
    try clear c13b1
    try clear c14
    try clear c14b0
    try clear c14b1
    try clear hcz11_0
    try clear hcz11_1
    try clear hcz11_2
    try clear hcz11_3
    try clear hcz9_0
    try clear hcz9_1
    try clear hcz9_2
    try clear hcz9_3
    try clear hfz11_0
    try clear hfz11_1
    try clear hfz11_2
    try clear hfz11_3
    try clear hfz9_0
    try clear hfz9_1
    try clear hfz9_2
    try clear hfz9_3
    obtain ⟨kq, x2_4, rfl, HA, HJ4, BK238, BK239, HB⟩ := hcut
    cases kq with
    | zero => exact absurd HA.out (by simp [gangwaylaw07_UdpBack.j0])
    | succ kj4 =>
      have H := HA.out
      clear HA
      simp only [gangwaylaw07_UdpBack.j0] at H
      replace H := Option.bind_eq_some_iff.mp H
      obtain ⟨⟨t244, t245⟩, A150, H⟩ := H
      replace H : (if t245 = 0 then (if (t244.size : Int) < 8 then (none) else (if t244.size + x2_4.size ≤ 9223372036854775807 then ((udp_Parse.f kj4 a0_0 a0_1 (t244 ++ x2_4)).bind fun bt247 => ((udp_Parse.f kj4 a0_1 a0_0 (t244 ++ x2_4)).bind fun bt253 => (if 0 ≤ (wrap64 ((t244.size : Int) - 1)) then (if (wrap64 ((t244.size : Int) - 1)) ≤ (t244.size : Int) then ((udp_Parse.f kj4 a0_0 a0_1 (t244.extract 0 ((wrap64 ((t244.size : Int) - 1)) : Int).toNat)).bind fun bt259 => (if bt247.2.2.2.2 = 0 then (if (bt247.1 == t240 && (bt247.2.1 == t241 && (bt247.2.2.1 == t242 && (bt247.2.2.2.1.toList == t243.toList)))) = true then (if bt253.2.2.2.2 = 0 then (if (bt253.1 == t240 && (bt253.2.1 == t241 && (bt253.2.2.1 == t242 && (bt253.2.2.2.1.toList == t243.toList)))) = true then (if bt259.2.2.2.2 = 70 then ((gangwaylaw07_fixed.f kj4).bind fun t265 => (some t265)) else (none)) else (none)) else (none)) else (none)) else (none))) else (none)) else (none)))) else (none))) else (if t244.toList = ([] : List UInt8) then ((gangwaylaw07_fixed.f kj4).bind fun t246 => (some t246)) else (none))) = some r := H
      have A15 := Aside0.mk A150
      clear A150
      by_cases c16 : t245 = 0
      · rw [if_pos c16] at H
        have c16b0 : (t245 == 0) = true := beq_iff_eq.mpr c16
        have c16b1 : (t245 != 0) = false := bne_eq_false_iff_eq.mpr c16
        clear c16
        by_cases c17 : (t244.size : Int) < 8
        · rw [if_pos c17] at H
          exact absurd H (by simp)
        · rw [if_neg c17] at H
          have c17b0 : decide ((t244.size : Int) < 8) = false := decide_eq_false c17
          have c17b1 : decide (t244.size < 8) = false := decide_eq_false (by omega)
          clear c17
          by_cases c18 : t244.size + x2_4.size ≤ 9223372036854775807
          · rw [if_pos c18] at H
            have c18b0 := eq_true c18
            have c18b1 : decide (t244.size + x2_4.size ≤ 9223372036854775807) = true := decide_eq_true c18
            try have c18b2 : (9223372036854775807 < t244.size + x2_4.size) = False := eq_false (Nat.not_lt.2 c18)
            replace H := Option.bind_eq_some_iff.mp H
            obtain ⟨⟨t247, t248, t249, t250, t251⟩, A190, H⟩ := H
            replace H : ((udp_Parse.f kj4 a0_1 a0_0 (t244 ++ x2_4)).bind fun bt253 => (if 0 ≤ (wrap64 ((t244.size : Int) - 1)) then (if (wrap64 ((t244.size : Int) - 1)) ≤ (t244.size : Int) then ((udp_Parse.f kj4 a0_0 a0_1 (t244.extract 0 ((wrap64 ((t244.size : Int) - 1)) : Int).toNat)).bind fun bt259 => (if t251 = 0 then (if (t247 == t240 && (t248 == t241 && (t249 == t242 && (t250.toList == t243.toList)))) = true then (if bt253.2.2.2.2 = 0 then (if (bt253.1 == t240 && (bt253.2.1 == t241 && (bt253.2.2.1 == t242 && (bt253.2.2.2.1.toList == t243.toList)))) = true then (if bt259.2.2.2.2 = 70 then ((gangwaylaw07_fixed.f kj4).bind fun t265 => (some t265)) else (none)) else (none)) else (none)) else (none)) else (none))) else (none)) else (none))) = some r := H
            have A19 := Aside0.mk A190
            clear A190
            replace H := Option.bind_eq_some_iff.mp H
            obtain ⟨⟨t253, t254, t255, t256, t257⟩, A200, H⟩ := H
            replace H : (if 0 ≤ (wrap64 ((t244.size : Int) - 1)) then (if (wrap64 ((t244.size : Int) - 1)) ≤ (t244.size : Int) then ((udp_Parse.f kj4 a0_0 a0_1 (t244.extract 0 ((wrap64 ((t244.size : Int) - 1)) : Int).toNat)).bind fun bt259 => (if t251 = 0 then (if (t247 == t240 && (t248 == t241 && (t249 == t242 && (t250.toList == t243.toList)))) = true then (if t257 = 0 then (if (t253 == t240 && (t254 == t241 && (t255 == t242 && (t256.toList == t243.toList)))) = true then (if bt259.2.2.2.2 = 70 then ((gangwaylaw07_fixed.f kj4).bind fun t265 => (some t265)) else (none)) else (none)) else (none)) else (none)) else (none))) else (none)) else (none)) = some r := H
            have A20 := Aside0.mk A200
            clear A200
            obtain ⟨ji21, hji21⟩ : ∃ j_ : Int, (wrap64 ((t244.size : Int) - 1)) = j_ := ⟨_, rfl⟩
            replace H : (if 0 ≤ (ji21) then (if (ji21) ≤ (t244.size : Int) then ((udp_Parse.f kj4 a0_0 a0_1 (t244.extract 0 ((ji21) : Int).toNat)).bind fun bt259 => (if t251 = 0 then (if (t247 == t240 && (t248 == t241 && (t249 == t242 && (t250.toList == t243.toList)))) = true then (if t257 = 0 then (if (t253 == t240 && (t254 == t241 && (t255 == t242 && (t256.toList == t243.toList)))) = true then (if bt259.2.2.2.2 = 70 then ((gangwaylaw07_fixed.f kj4).bind fun t265 => (some t265)) else (none)) else (none)) else (none)) else (none)) else (none))) else (none)) else (none)) = some r := by first | (rw [hji21] at H; exact H) | (simp only [hji21] at H ⊢; exact H)
            (try rw [hji21] at A15)
            (try rw [hji21] at A19)
            (try rw [hji21] at A20)
            have hji21w : (IntKind.i64.wrap ((t244.size : Int) - 1)) = ji21 := (i64_w _).trans hji21
            by_cases c22 : 0 ≤ (ji21)
            · rw [if_pos c22] at H
              have c22b0 := eq_true c22
              have c22b1 : decide (0 ≤ (ji21)) = true := decide_eq_true c22
              clear c22
              by_cases c23 : (ji21) ≤ (t244.size : Int)
              · rw [if_pos c23] at H
                have c23b0 := eq_true c23
                have c23b1 : decide ((ji21) ≤ (t244.size : Int)) = true := decide_eq_true c23
                clear c23
                replace H := Option.bind_eq_some_iff.mp H
                obtain ⟨⟨t259, t260, t261, t262, t263⟩, A240, H⟩ := H
                replace H : (if t251 = 0 then (if (t247 == t240 && (t248 == t241 && (t249 == t242 && (t250.toList == t243.toList)))) = true then (if t257 = 0 then (if (t253 == t240 && (t254 == t241 && (t255 == t242 && (t256.toList == t243.toList)))) = true then (if t263 = 70 then ((gangwaylaw07_fixed.f kj4).bind fun t265 => (some t265)) else (none)) else (none)) else (none)) else (none)) else (none)) = some r := H
                have A24 := Aside0.mk A240
                clear A240
                by_cases c25 : t251 = 0
                · rw [if_pos c25] at H
                  have c25b0 : (t251 == 0) = true := beq_iff_eq.mpr c25
                  have c25b1 : (t251 != 0) = false := bne_eq_false_iff_eq.mpr c25
                  clear c25
                  by_cases c26 : (t247 == t240 && (t248 == t241 && (t249 == t242 && (t250.toList == t243.toList)))) = true
                  · rw [if_pos c26] at H
                    have c26b0 : (t247 == t240 && (t248 == t241 && (t249 == t242 && (t250.toList == t243.toList)))) = true := c26
                    (try (have c26b1 : decide (t247 = t240 && (t248 == t241 && (t249 == t242 && (t250.toList == t243.toList)))) = true := by simpa using c26))
                    (try (have c26b2 : (t247 == t240 && (t248 == t241 && (t249 == t242 && (t250.toList == t243.toList)))) = true := by simpa using c26))
                    clear c26
                    by_cases c27 : t257 = 0
                    · rw [if_pos c27] at H
                      have c27b0 : (t257 == 0) = true := beq_iff_eq.mpr c27
                      have c27b1 : (t257 != 0) = false := bne_eq_false_iff_eq.mpr c27
                      clear c27
                      by_cases c28 : (t253 == t240 && (t254 == t241 && (t255 == t242 && (t256.toList == t243.toList)))) = true
                      · rw [if_pos c28] at H
                        have c28b0 : (t253 == t240 && (t254 == t241 && (t255 == t242 && (t256.toList == t243.toList)))) = true := c28
                        (try (have c28b1 : decide (t253 = t240 && (t254 == t241 && (t255 == t242 && (t256.toList == t243.toList)))) = true := by simpa using c28))
                        (try (have c28b2 : (t253 == t240 && (t254 == t241 && (t255 == t242 && (t256.toList == t243.toList)))) = true := by simpa using c28))
                        clear c28
                        by_cases c29 : t263 = 70
                        · rw [if_pos c29] at H
                          have c29b0 : (t263 == 70) = true := beq_iff_eq.mpr c29
                          have c29b1 : (t263 != 70) = false := bne_eq_false_iff_eq.mpr c29
                          clear c29
                          replace H := Option.bind_eq_some_iff.mp H
                          obtain ⟨t265, A300, H⟩ := H
                          replace H : (some t265) = some r := H
                          have A30 := Aside0.mk A300
                          clear A300
                          obtain rfl := Option.some.inj H
                          have hnb31 := NB238_239.out
                          have hnc31 := NB239_238.out
                          have hcz32_0 : wc.cell? ⟨gb238, 0, none⟩ = some (.int .u32 a0_0) := (blk_cell BK238.out 0).trans rfl
                          have hcz32_1 : wc.cell? ⟨gb238, 1, none⟩ = some (.int .u32 a0_1) := (blk_cell BK238.out 1).trans rfl
                          have hfz32_0 := blk_frozen BK238.out 0
                          have hfz32_1 := blk_frozen BK238.out 1
                          have hcz33_0 : wc.cell? ⟨gb239, 0, none⟩ = some (.int .i64 t240) := (blk_cell BK239.out 0).trans rfl
                          have hcz33_1 : wc.cell? ⟨gb239, 1, none⟩ = some (.int .i64 t241) := (blk_cell BK239.out 1).trans rfl
                          have hcz33_2 : wc.cell? ⟨gb239, 2, none⟩ = some (.bool t242) := (blk_cell BK239.out 2).trans rfl
                          have hcz33_3 : wc.cell? ⟨gb239, 3, none⟩ = some (.string t243) := (blk_cell BK239.out 3).trans rfl
                          have hfz33_0 := blk_frozen BK239.out 0
                          have hfz33_1 := blk_frozen BK239.out 1
                          have hfz33_2 := blk_frozen BK239.out 2
                          have hfz33_3 := blk_frozen BK239.out 3
                          try go_wp2_with (first | ((with_reducible refine gate_callee (f := 9) rfl ?_); refine goesL_ (some 28) rfl rfl Tryd.func9 (by kernel_rfl) rfl #[.int .u32 a0_0, .int .u32 a0_1, .agg #[.int .i64 t240, .int .i64 t241, .bool t242, .string t243]] rfl (by (try simp only [List.map_toArray, List.map_cons, List.map_nil]); first | done | rfl | (simp only [List.length_drop, List.length_take]; rfl)) ?_; (with_reducible refine (udp_Build.calls kj4 a0_0 a0_1 t240 t241 t242 t243 t244 t245 _ A15.out).mono ?_); rintro e w34 ⟨rfl, hb⟩; refine ⟨_, rfl, ?_⟩; have n0_ := Aside0.mk (blk_below (g := gb238) (o := .cells #[.int .u32 a0_0, .int .u32 a0_1] 24 (0, 0)) (by (with_reducible repeat (first | refine blk_drewN ?_ _ | refine blk_drew ?_ | refine blk_alloc ?_ _)); exact BK238.out) hb); have n1_ := Aside0.mk (blk_below (g := gb239) (o := .cells #[.int .i64 t240, .int .i64 t241, .bool t242, .string t243] 26 (0, 0)) (by (with_reducible repeat (first | refine blk_drewN ?_ _ | refine blk_drew ?_ | refine blk_alloc ?_ _)); exact BK239.out) hb); have n2_ := Aside0.mk (below_step (by repeat (first | (with_reducible first | exact HB.out | apply below_alloc | apply pw_below_drewN | apply below_drew1 | refine below_set ?_ GE238.out | refine below_set ?_ GE239.out) | exact HB.out)) hb); clear BK238; clear BK239; clear HB; have BK238 := n0_; have BK239 := n1_; have HB := n2_; clear n0_ n1_ n2_; have hcy1_238_0 := (show World.cell? _ ⟨gb238, 0, none⟩ = some (.int .u32 a0_0) from (blk_cell BK238.out 0).trans rfl); have hcy1_238_1 := (show World.cell? _ ⟨gb238, 1, none⟩ = some (.int .u32 a0_1) from (blk_cell BK238.out 1).trans rfl); (try clear hb); (try clear hb2); (try clear hk); (try clear hi); have hcz35_0 : w34.cell? ⟨gb238, 0, none⟩ = some (.int .u32 a0_0) := (blk_cell BK238.out 0).trans rfl; have hcz35_1 : w34.cell? ⟨gb238, 1, none⟩ = some (.int .u32 a0_1) := (blk_cell BK238.out 1).trans rfl; have hfz35_0 := blk_frozen BK238.out 0; have hfz35_1 := blk_frozen BK238.out 1) | ((with_reducible refine gate_callee (f := 14) rfl ?_); refine goesL_ (some 49) rfl rfl Tryd.func14 (by kernel_rfl) rfl #[.int .u32 a0_0, .int .u32 a0_1, .string (t244 ++ x2_4)] rfl (by (try simp only [List.map_toArray, List.map_cons, List.map_nil]); first | done | rfl | (simp only [List.length_drop, List.length_take]; rfl)) ?_; (with_reducible refine (udp_Parse.calls kj4 a0_0 a0_1 (t244 ++ x2_4) t247 t248 t249 t250 t251 _ A19.out).mono ?_); rintro e w36 ⟨rfl, hb⟩; refine ⟨_, rfl, ?_⟩; have n0_ := Aside0.mk (blk_below (g := gb238) (o := .cells #[.int .u32 a0_0, .int .u32 a0_1] 24 (0, 0)) (by (with_reducible repeat (first | refine blk_drewN ?_ _ | refine blk_drew ?_ | refine blk_alloc ?_ _)); exact BK238.out) hb); have n1_ := Aside0.mk (blk_below (g := gb239) (o := .cells #[.int .i64 t240, .int .i64 t241, .bool t242, .string t243] 26 (0, 0)) (by (with_reducible repeat (first | refine blk_drewN ?_ _ | refine blk_drew ?_ | refine blk_alloc ?_ _)); exact BK239.out) hb); have n2_ := Aside0.mk (below_step (by repeat (first | (with_reducible first | exact HB.out | apply below_alloc | apply pw_below_drewN | apply below_drew1 | refine below_set ?_ GE238.out | refine below_set ?_ GE239.out) | exact HB.out)) hb); clear BK238; clear BK239; clear HB; have BK238 := n0_; have BK239 := n1_; have HB := n2_; clear n0_ n1_ n2_; have hcy2_238_0 := (show World.cell? _ ⟨gb238, 0, none⟩ = some (.int .u32 a0_0) from (blk_cell BK238.out 0).trans rfl); have hcy2_238_1 := (show World.cell? _ ⟨gb238, 1, none⟩ = some (.int .u32 a0_1) from (blk_cell BK238.out 1).trans rfl); (try clear hb); (try clear hb2); (try clear hk); (try clear hi)) | ((with_reducible refine gate_dst (N := 9) rfl ?_); refine box_event ?hg (N := 9) ?hd (cs := #[.int .i64 0, .int .i64 0, .bool false, .string (⟨#[]⟩ : ByteArray)]) (t := 26) ?hr ?_; (case hd => rfl); (case hg => rfl); (case hr => first | (go_simp; done) | (go_simp; rfl)); intro gb252 hg w37 hbox hb; have n0_ := Aside0.mk (blk_below (g := gb238) (o := .cells #[.int .u32 a0_0, .int .u32 a0_1] 24 (0, 0)) (by (with_reducible repeat (first | refine blk_drewN ?_ _ | refine blk_drew ?_ | refine blk_alloc ?_ _)); exact BK238.out) hb); have n1_ := Aside0.mk (blk_below (g := gb239) (o := .cells #[.int .i64 t240, .int .i64 t241, .bool t242, .string t243] 26 (0, 0)) (by (with_reducible repeat (first | refine blk_drewN ?_ _ | refine blk_drew ?_ | refine blk_alloc ?_ _)); exact BK239.out) hb); have n2_ := Aside0.mk (below_step (by repeat (first | (with_reducible first | exact HB.out | apply below_alloc | apply pw_below_drewN | apply below_drew1 | refine below_set ?_ GE238.out | refine below_set ?_ GE239.out) | exact HB.out)) hb); have n3_ := Aside0.mk (hbox); have n4_ := Aside0.mk ((by rw [hg]; exact (below_size (by repeat (first | (with_reducible first | exact HB.out | apply below_alloc | apply pw_below_drewN | apply below_drew1 | refine below_set ?_ GE238.out | refine below_set ?_ GE239.out) | exact HB.out))) : w.heap.size ≤ gb252)); have n5_ := Aside0.mk ((by rw [hg]; exact (below_size (by repeat (first | (with_reducible first | exact HB.out | apply below_alloc | apply pw_below_drewN | apply below_drew1 | refine below_set ?_ GE238.out | refine below_set ?_ GE239.out) | exact HB.out))) : w.heap.size ≤ gb252)); have n6_ := Aside0.mk ((by rw [hg]; exact Nat.ne_of_lt (blk_lt (g := gb238) (o := .cells #[.int .u32 a0_0, .int .u32 a0_1] 24 (0, 0)) (by (with_reducible repeat (first | refine blk_drewN ?_ _ | refine blk_drew ?_ | refine blk_alloc ?_ _)); exact BK238.out)) : gb238 ≠ gb252)); have n7_ := Aside0.mk ((by rw [hg]; exact Nat.ne_of_gt (blk_lt (g := gb238) (o := .cells #[.int .u32 a0_0, .int .u32 a0_1] 24 (0, 0)) (by (with_reducible repeat (first | refine blk_drewN ?_ _ | refine blk_drew ?_ | refine blk_alloc ?_ _)); exact BK238.out)) : gb252 ≠ gb238)); have n8_ := Aside0.mk ((by rw [hg]; exact Nat.ne_of_lt (blk_lt (g := gb239) (o := .cells #[.int .i64 t240, .int .i64 t241, .bool t242, .string t243] 26 (0, 0)) (by (with_reducible repeat (first | refine blk_drewN ?_ _ | refine blk_drew ?_ | refine blk_alloc ?_ _)); exact BK239.out)) : gb239 ≠ gb252)); have n9_ := Aside0.mk ((by rw [hg]; exact Nat.ne_of_gt (blk_lt (g := gb239) (o := .cells #[.int .i64 t240, .int .i64 t241, .bool t242, .string t243] 26 (0, 0)) (by (with_reducible repeat (first | refine blk_drewN ?_ _ | refine blk_drew ?_ | refine blk_alloc ?_ _)); exact BK239.out)) : gb252 ≠ gb239)); clear BK238; clear BK239; clear HB; have BK238 := n0_; have BK239 := n1_; have HB := n2_; have BK252 := n3_; have GW252 := n4_; have GE252 := n5_; have NB238_252 := n6_; have NB252_238 := n7_; have NB239_252 := n8_; have NB252_239 := n9_; clear n0_ n1_ n2_ n3_ n4_ n5_ n6_ n7_ n8_ n9_; have hcy3_238_0 := (show World.cell? _ ⟨gb238, 0, none⟩ = some (.int .u32 a0_0) from (blk_cell BK238.out 0).trans rfl); have hcy3_238_1 := (show World.cell? _ ⟨gb238, 1, none⟩ = some (.int .u32 a0_1) from (blk_cell BK238.out 1).trans rfl); clear hb hbox hg; have hnb38 := NB252_238.out; have hnc38 := NB238_252.out; have hnb39 := NB252_239.out; have hnc39 := NB239_252.out; have hcz40_0 : w37.cell? ⟨gb252, 0, none⟩ = some (.int .i64 0) := (blk_cell BK252.out 0).trans rfl; have hcz40_1 : w37.cell? ⟨gb252, 1, none⟩ = some (.int .i64 0) := (blk_cell BK252.out 1).trans rfl; have hcz40_2 : w37.cell? ⟨gb252, 2, none⟩ = some (.bool false) := (blk_cell BK252.out 2).trans rfl; have hcz40_3 : w37.cell? ⟨gb252, 3, none⟩ = some (.string (⟨#[]⟩ : ByteArray)) := (blk_cell BK252.out 3).trans rfl; have hfz40_0 := blk_frozen BK252.out 0; have hfz40_1 := blk_frozen BK252.out 1; have hfz40_2 := blk_frozen BK252.out 2; have hfz40_3 := blk_frozen BK252.out 3; have hcz41_0 : w37.cell? ⟨gb238, 0, none⟩ = some (.int .u32 a0_0) := (blk_cell BK238.out 0).trans rfl; have hcz41_1 : w37.cell? ⟨gb238, 1, none⟩ = some (.int .u32 a0_1) := (blk_cell BK238.out 1).trans rfl; have hfz41_0 := blk_frozen BK238.out 0; have hfz41_1 := blk_frozen BK238.out 1) | ((with_reducible refine gate_callee (f := 14) rfl ?_); refine goesL_ (some 60) rfl rfl Tryd.func14 (by kernel_rfl) rfl #[.int .u32 a0_1, .int .u32 a0_0, .string (t244 ++ x2_4)] rfl (by (try simp only [List.map_toArray, List.map_cons, List.map_nil]); first | done | rfl | (simp only [List.length_drop, List.length_take]; rfl)) ?_; (with_reducible refine (udp_Parse.calls kj4 a0_1 a0_0 (t244 ++ x2_4) t253 t254 t255 t256 t257 _ A20.out).mono ?_); rintro e w42 ⟨rfl, hb⟩; refine ⟨_, rfl, ?_⟩; have n0_ := Aside0.mk (blk_below (g := gb238) (o := .cells #[.int .u32 a0_0, .int .u32 a0_1] 24 (0, 0)) (by (with_reducible repeat (first | refine blk_drewN ?_ _ | refine blk_drew ?_ | refine blk_alloc ?_ _)); refine blk_far ?_ NB238_252.out _; (with_reducible repeat (first | refine blk_drewN ?_ _ | refine blk_drew ?_ | refine blk_alloc ?_ _)); refine blk_far ?_ NB238_252.out _; (with_reducible repeat (first | refine blk_drewN ?_ _ | refine blk_drew ?_ | refine blk_alloc ?_ _)); refine blk_far ?_ NB238_252.out _; (with_reducible repeat (first | refine blk_drewN ?_ _ | refine blk_drew ?_ | refine blk_alloc ?_ _)); refine blk_far ?_ NB238_252.out _; (with_reducible repeat (first | refine blk_drewN ?_ _ | refine blk_drew ?_ | refine blk_alloc ?_ _)); exact BK238.out) hb); have n1_ := Aside0.mk (blk_below (g := gb239) (o := .cells #[.int .i64 t240, .int .i64 t241, .bool t242, .string t243] 26 (0, 0)) (by (with_reducible repeat (first | refine blk_drewN ?_ _ | refine blk_drew ?_ | refine blk_alloc ?_ _)); refine blk_far ?_ NB239_252.out _; (with_reducible repeat (first | refine blk_drewN ?_ _ | refine blk_drew ?_ | refine blk_alloc ?_ _)); refine blk_far ?_ NB239_252.out _; (with_reducible repeat (first | refine blk_drewN ?_ _ | refine blk_drew ?_ | refine blk_alloc ?_ _)); refine blk_far ?_ NB239_252.out _; (with_reducible repeat (first | refine blk_drewN ?_ _ | refine blk_drew ?_ | refine blk_alloc ?_ _)); refine blk_far ?_ NB239_252.out _; (with_reducible repeat (first | refine blk_drewN ?_ _ | refine blk_drew ?_ | refine blk_alloc ?_ _)); exact BK239.out) hb); have n2_ := Aside0.mk (blk_below (g := gb252) (o := .cells #[.int .i64 t247, .int .i64 t248, .bool t249, .string t250] 26 (0, 0)) (by (with_reducible repeat (first | refine blk_drewN ?_ _ | refine blk_drew ?_ | refine blk_alloc ?_ _)); refine blk_put (cs := #[.int .i64 t247, .int .i64 t248, .bool t249, .string (⟨#[]⟩ : ByteArray)]) ?_ 3 _ rfl; (with_reducible repeat (first | refine blk_drewN ?_ _ | refine blk_drew ?_ | refine blk_alloc ?_ _)); refine blk_put (cs := #[.int .i64 t247, .int .i64 t248, .bool false, .string (⟨#[]⟩ : ByteArray)]) ?_ 2 _ rfl; (with_reducible repeat (first | refine blk_drewN ?_ _ | refine blk_drew ?_ | refine blk_alloc ?_ _)); refine blk_put (cs := #[.int .i64 t247, .int .i64 0, .bool false, .string (⟨#[]⟩ : ByteArray)]) ?_ 1 _ rfl; (with_reducible repeat (first | refine blk_drewN ?_ _ | refine blk_drew ?_ | refine blk_alloc ?_ _)); refine blk_put (cs := #[.int .i64 0, .int .i64 0, .bool false, .string (⟨#[]⟩ : ByteArray)]) ?_ 0 _ rfl; (with_reducible repeat (first | refine blk_drewN ?_ _ | refine blk_drew ?_ | refine blk_alloc ?_ _)); exact BK252.out) hb); have n3_ := Aside0.mk (below_step (by repeat (first | (with_reducible first | exact HB.out | apply below_alloc | apply pw_below_drewN | apply below_drew1 | refine below_set ?_ GE238.out | refine below_set ?_ GE239.out | refine below_set ?_ GE252.out) | exact HB.out)) hb); clear BK238; clear BK239; clear BK252; clear HB; have BK238 := n0_; have BK239 := n1_; have BK252 := n2_; have HB := n3_; clear n0_ n1_ n2_ n3_; have hcy4_238_0 := (show World.cell? _ ⟨gb238, 0, none⟩ = some (.int .u32 a0_0) from (blk_cell BK238.out 0).trans rfl); have hcy4_238_1 := (show World.cell? _ ⟨gb238, 1, none⟩ = some (.int .u32 a0_1) from (blk_cell BK238.out 1).trans rfl); (try clear hb); (try clear hb2); (try clear hk); (try clear hi)) | ((with_reducible refine gate_dst (N := 11) rfl ?_); refine box_event ?hg (N := 11) ?hd (cs := #[.int .i64 0, .int .i64 0, .bool false, .string (⟨#[]⟩ : ByteArray)]) (t := 26) ?hr ?_; (case hd => rfl); (case hg => rfl); (case hr => first | (go_simp; done) | (go_simp; rfl)); intro gb258 hg w43 hbox hb; have n0_ := Aside0.mk (blk_below (g := gb238) (o := .cells #[.int .u32 a0_0, .int .u32 a0_1] 24 (0, 0)) (by (with_reducible repeat (first | refine blk_drewN ?_ _ | refine blk_drew ?_ | refine blk_alloc ?_ _)); exact BK238.out) hb); have n1_ := Aside0.mk (blk_below (g := gb239) (o := .cells #[.int .i64 t240, .int .i64 t241, .bool t242, .string t243] 26 (0, 0)) (by (with_reducible repeat (first | refine blk_drewN ?_ _ | refine blk_drew ?_ | refine blk_alloc ?_ _)); exact BK239.out) hb); have n2_ := Aside0.mk (blk_below (g := gb252) (o := .cells #[.int .i64 t247, .int .i64 t248, .bool t249, .string t250] 26 (0, 0)) (by (with_reducible repeat (first | refine blk_drewN ?_ _ | refine blk_drew ?_ | refine blk_alloc ?_ _)); exact BK252.out) hb); have n3_ := Aside0.mk (below_step (by repeat (first | (with_reducible first | exact HB.out | apply below_alloc | apply pw_below_drewN | apply below_drew1 | refine below_set ?_ GE238.out | refine below_set ?_ GE239.out | refine below_set ?_ GE252.out) | exact HB.out)) hb); have n4_ := Aside0.mk (hbox); have n5_ := Aside0.mk ((by rw [hg]; exact (below_size (by repeat (first | (with_reducible first | exact HB.out | apply below_alloc | apply pw_below_drewN | apply below_drew1 | refine below_set ?_ GE238.out | refine below_set ?_ GE239.out | refine below_set ?_ GE252.out) | exact HB.out))) : w.heap.size ≤ gb258)); have n6_ := Aside0.mk ((by rw [hg]; exact (below_size (by repeat (first | (with_reducible first | exact HB.out | apply below_alloc | apply pw_below_drewN | apply below_drew1 | refine below_set ?_ GE238.out | refine below_set ?_ GE239.out | refine below_set ?_ GE252.out) | exact HB.out))) : w.heap.size ≤ gb258)); have n7_ := Aside0.mk ((by rw [hg]; exact Nat.ne_of_lt (blk_lt (g := gb238) (o := .cells #[.int .u32 a0_0, .int .u32 a0_1] 24 (0, 0)) (by (with_reducible repeat (first | refine blk_drewN ?_ _ | refine blk_drew ?_ | refine blk_alloc ?_ _)); exact BK238.out)) : gb238 ≠ gb258)); have n8_ := Aside0.mk ((by rw [hg]; exact Nat.ne_of_gt (blk_lt (g := gb238) (o := .cells #[.int .u32 a0_0, .int .u32 a0_1] 24 (0, 0)) (by (with_reducible repeat (first | refine blk_drewN ?_ _ | refine blk_drew ?_ | refine blk_alloc ?_ _)); exact BK238.out)) : gb258 ≠ gb238)); have n9_ := Aside0.mk ((by rw [hg]; exact Nat.ne_of_lt (blk_lt (g := gb239) (o := .cells #[.int .i64 t240, .int .i64 t241, .bool t242, .string t243] 26 (0, 0)) (by (with_reducible repeat (first | refine blk_drewN ?_ _ | refine blk_drew ?_ | refine blk_alloc ?_ _)); exact BK239.out)) : gb239 ≠ gb258)); have n10_ := Aside0.mk ((by rw [hg]; exact Nat.ne_of_gt (blk_lt (g := gb239) (o := .cells #[.int .i64 t240, .int .i64 t241, .bool t242, .string t243] 26 (0, 0)) (by (with_reducible repeat (first | refine blk_drewN ?_ _ | refine blk_drew ?_ | refine blk_alloc ?_ _)); exact BK239.out)) : gb258 ≠ gb239)); have n11_ := Aside0.mk ((by rw [hg]; exact Nat.ne_of_lt (blk_lt (g := gb252) (o := .cells #[.int .i64 t247, .int .i64 t248, .bool t249, .string t250] 26 (0, 0)) (by (with_reducible repeat (first | refine blk_drewN ?_ _ | refine blk_drew ?_ | refine blk_alloc ?_ _)); exact BK252.out)) : gb252 ≠ gb258)); have n12_ := Aside0.mk ((by rw [hg]; exact Nat.ne_of_gt (blk_lt (g := gb252) (o := .cells #[.int .i64 t247, .int .i64 t248, .bool t249, .string t250] 26 (0, 0)) (by (with_reducible repeat (first | refine blk_drewN ?_ _ | refine blk_drew ?_ | refine blk_alloc ?_ _)); exact BK252.out)) : gb258 ≠ gb252)); clear BK238; clear BK239; clear BK252; clear HB; have BK238 := n0_; have BK239 := n1_; have BK252 := n2_; have HB := n3_; have BK258 := n4_; have GW258 := n5_; have GE258 := n6_; have NB238_258 := n7_; have NB258_238 := n8_; have NB239_258 := n9_; have NB258_239 := n10_; have NB252_258 := n11_; have NB258_252 := n12_; clear n0_ n1_ n2_ n3_ n4_ n5_ n6_ n7_ n8_ n9_ n10_ n11_ n12_; have hcy5_238_0 := (show World.cell? _ ⟨gb238, 0, none⟩ = some (.int .u32 a0_0) from (blk_cell BK238.out 0).trans rfl); have hcy5_238_1 := (show World.cell? _ ⟨gb238, 1, none⟩ = some (.int .u32 a0_1) from (blk_cell BK238.out 1).trans rfl); clear hb hbox hg; have hnb44 := NB258_238.out; have hnc44 := NB238_258.out; have hnb45 := NB258_239.out; have hnc45 := NB239_258.out; have hnb46 := NB258_252.out; have hnc46 := NB252_258.out; have hcz47_0 : w43.cell? ⟨gb258, 0, none⟩ = some (.int .i64 0) := (blk_cell BK258.out 0).trans rfl; have hcz47_1 : w43.cell? ⟨gb258, 1, none⟩ = some (.int .i64 0) := (blk_cell BK258.out 1).trans rfl; have hcz47_2 : w43.cell? ⟨gb258, 2, none⟩ = some (.bool false) := (blk_cell BK258.out 2).trans rfl; have hcz47_3 : w43.cell? ⟨gb258, 3, none⟩ = some (.string (⟨#[]⟩ : ByteArray)) := (blk_cell BK258.out 3).trans rfl; have hfz47_0 := blk_frozen BK258.out 0; have hfz47_1 := blk_frozen BK258.out 1; have hfz47_2 := blk_frozen BK258.out 2; have hfz47_3 := blk_frozen BK258.out 3))
                          have n0_ : Aside0 (((((w43.setCell ⟨gb258, 0, none⟩ (.int .i64 t253)).setCell ⟨gb258, 1, none⟩ (.int .i64 t254)).setCell ⟨gb258, 2, none⟩ (.bool t255)).setCell ⟨gb258, 3, none⟩ (.string t256)).heap[gb238]? = some (.cells #[.int .u32 a0_0, .int .u32 a0_1] 24 (0, 0))) := ⟨by (with_reducible repeat (first | refine blk_drewN ?_ _ | refine blk_drew ?_ | refine blk_alloc ?_ _)); refine blk_far ?_ NB238_258.out _; (with_reducible repeat (first | refine blk_drewN ?_ _ | refine blk_drew ?_ | refine blk_alloc ?_ _)); refine blk_far ?_ NB238_258.out _; (with_reducible repeat (first | refine blk_drewN ?_ _ | refine blk_drew ?_ | refine blk_alloc ?_ _)); refine blk_far ?_ NB238_258.out _; (with_reducible repeat (first | refine blk_drewN ?_ _ | refine blk_drew ?_ | refine blk_alloc ?_ _)); refine blk_far ?_ NB238_258.out _; (with_reducible repeat (first | refine blk_drewN ?_ _ | refine blk_drew ?_ | refine blk_alloc ?_ _)); exact BK238.out⟩
                          have n1_ : Aside0 (((((w43.setCell ⟨gb258, 0, none⟩ (.int .i64 t253)).setCell ⟨gb258, 1, none⟩ (.int .i64 t254)).setCell ⟨gb258, 2, none⟩ (.bool t255)).setCell ⟨gb258, 3, none⟩ (.string t256)).heap[gb239]? = some (.cells #[.int .i64 t240, .int .i64 t241, .bool t242, .string t243] 26 (0, 0))) := ⟨by (with_reducible repeat (first | refine blk_drewN ?_ _ | refine blk_drew ?_ | refine blk_alloc ?_ _)); refine blk_far ?_ NB239_258.out _; (with_reducible repeat (first | refine blk_drewN ?_ _ | refine blk_drew ?_ | refine blk_alloc ?_ _)); refine blk_far ?_ NB239_258.out _; (with_reducible repeat (first | refine blk_drewN ?_ _ | refine blk_drew ?_ | refine blk_alloc ?_ _)); refine blk_far ?_ NB239_258.out _; (with_reducible repeat (first | refine blk_drewN ?_ _ | refine blk_drew ?_ | refine blk_alloc ?_ _)); refine blk_far ?_ NB239_258.out _; (with_reducible repeat (first | refine blk_drewN ?_ _ | refine blk_drew ?_ | refine blk_alloc ?_ _)); exact BK239.out⟩
                          have n2_ : Aside0 (((((w43.setCell ⟨gb258, 0, none⟩ (.int .i64 t253)).setCell ⟨gb258, 1, none⟩ (.int .i64 t254)).setCell ⟨gb258, 2, none⟩ (.bool t255)).setCell ⟨gb258, 3, none⟩ (.string t256)).heap[gb252]? = some (.cells #[.int .i64 t247, .int .i64 t248, .bool t249, .string t250] 26 (0, 0))) := ⟨by (with_reducible repeat (first | refine blk_drewN ?_ _ | refine blk_drew ?_ | refine blk_alloc ?_ _)); refine blk_far ?_ NB252_258.out _; (with_reducible repeat (first | refine blk_drewN ?_ _ | refine blk_drew ?_ | refine blk_alloc ?_ _)); refine blk_far ?_ NB252_258.out _; (with_reducible repeat (first | refine blk_drewN ?_ _ | refine blk_drew ?_ | refine blk_alloc ?_ _)); refine blk_far ?_ NB252_258.out _; (with_reducible repeat (first | refine blk_drewN ?_ _ | refine blk_drew ?_ | refine blk_alloc ?_ _)); refine blk_far ?_ NB252_258.out _; (with_reducible repeat (first | refine blk_drewN ?_ _ | refine blk_drew ?_ | refine blk_alloc ?_ _)); exact BK252.out⟩
                          have n3_ : Aside0 (((((w43.setCell ⟨gb258, 0, none⟩ (.int .i64 t253)).setCell ⟨gb258, 1, none⟩ (.int .i64 t254)).setCell ⟨gb258, 2, none⟩ (.bool t255)).setCell ⟨gb258, 3, none⟩ (.string t256)).heap[gb258]? = some (.cells #[.int .i64 t253, .int .i64 t254, .bool t255, .string t256] 26 (0, 0))) := ⟨by (with_reducible repeat (first | refine blk_drewN ?_ _ | refine blk_drew ?_ | refine blk_alloc ?_ _)); refine blk_put (cs := #[.int .i64 t253, .int .i64 t254, .bool t255, .string (⟨#[]⟩ : ByteArray)]) ?_ 3 _ rfl; (with_reducible repeat (first | refine blk_drewN ?_ _ | refine blk_drew ?_ | refine blk_alloc ?_ _)); refine blk_put (cs := #[.int .i64 t253, .int .i64 t254, .bool false, .string (⟨#[]⟩ : ByteArray)]) ?_ 2 _ rfl; (with_reducible repeat (first | refine blk_drewN ?_ _ | refine blk_drew ?_ | refine blk_alloc ?_ _)); refine blk_put (cs := #[.int .i64 t253, .int .i64 0, .bool false, .string (⟨#[]⟩ : ByteArray)]) ?_ 1 _ rfl; (with_reducible repeat (first | refine blk_drewN ?_ _ | refine blk_drew ?_ | refine blk_alloc ?_ _)); refine blk_put (cs := #[.int .i64 0, .int .i64 0, .bool false, .string (⟨#[]⟩ : ByteArray)]) ?_ 0 _ rfl; (with_reducible repeat (first | refine blk_drewN ?_ _ | refine blk_drew ?_ | refine blk_alloc ?_ _)); exact BK258.out⟩
                          have n4_ : Aside0 (Below w.heap.size w ((((w43.setCell ⟨gb258, 0, none⟩ (.int .i64 t253)).setCell ⟨gb258, 1, none⟩ (.int .i64 t254)).setCell ⟨gb258, 2, none⟩ (.bool t255)).setCell ⟨gb258, 3, none⟩ (.string t256))) := ⟨by repeat (first | (with_reducible first | exact HB.out | apply below_alloc | apply pw_below_drewN | apply below_drew1 | refine below_set ?_ GE238.out | refine below_set ?_ GE239.out | refine below_set ?_ GE252.out | refine below_set ?_ GE258.out) | exact HB.out)⟩
                          (try clear BK238)
                          (try clear BK239)
                          (try clear BK252)
                          (try clear BK258)
                          (try clear HB)
                          generalize ((((w43.setCell ⟨gb258, 0, none⟩ (.int .i64 t253)).setCell ⟨gb258, 1, none⟩ (.int .i64 t254)).setCell ⟨gb258, 2, none⟩ (.bool t255)).setCell ⟨gb258, 3, none⟩ (.string t256)) = w48 at n0_ n1_ n2_ n3_ n4_ ⊢
                          have BK238 := n0_
                          have BK239 := n1_
                          have BK252 := n2_
                          have BK258 := n3_
                          have HB := n4_
                          clear n0_ n1_ n2_ n3_ n4_
                          have n0_ := Aside0.mk (blk_drew BK238.out)
                          have n1_ := Aside0.mk (blk_drew BK239.out)
                          have n2_ := Aside0.mk (blk_drew BK252.out)
                          have n3_ := Aside0.mk (blk_drew BK258.out)
                          have n4_ := Aside0.mk (below_drew1 HB.out)
                          clear BK238
                          clear BK239
                          clear BK252
                          clear BK258
                          clear HB
                          have BK238 := n0_
                          have BK239 := n1_
                          have BK252 := n2_
                          have BK258 := n3_
                          have HB := n4_
                          clear n0_ n1_ n2_ n3_ n4_
                          refine start_ (n := 16) (S := fun w' => w'.cell? ⟨gb238, 0, none⟩ = some (.int .u32 a0_0) ∧ w'.cell? ⟨gb238, 1, none⟩ = some (.int .u32 a0_1)) (ds := []) #[false, false, false, false, false, false, false, false, false, false, false, false, false, false, false, false] (by kernel_rfl) rfl rfl ⟨(blk_cell BK238.out 0).trans rfl, (blk_cell BK238.out 1).trans rfl⟩ (fun hHeld => ?_); refine with_tabW gangwaylaw07_UdpBack.tab10 gangwaylaw07_UdpBack.bits10 (fun HT_ HW_ => ?_)
                          generalize w48.drew = w49 at BK238 BK239 BK252 BK258 HB hHeld ⊢
                          refine pure_ (i := 0) (N := some 64) (v := ?_) (a' := ?_) #[true, false, false, false, false, false, false, false, false, false, false, false, false, false, false, false] rfl rfl (any_of HT_.out (by kernel_rfl)) (fun _ _ _ h => h) (Or.inl ⟨by rfl, ?_⟩) ?_ ?_
                          rotate_left
                          · intro w'
                            go_simp
                            first | with_reducible rfl | (rw [if_neg (by have hz0_ : (⟨#[]⟩ : ByteArray).size = 0 := rfl; (try simp only [decide_eq_true_eq, ByteArray.size_append, ByteArray.size_extract, eq_iff_iff, iff_true, iff_false, Nat.not_lt] at *); omega)]; try with_reducible rfl)
                          rotate_left
                          · simp only [Act.put, List.setIfInBounds_toArray, List.set_cons_zero, List.set_cons_succ, i64_w, i32_w]
                            rfl
                          refine pure_ (i := 2) (N := some 66) (v := ?_) (a' := ?_) #[true, false, true, false, false, false, false, false, false, false, false, false, false, false, false, false] rfl rfl (any_of HT_.out (by kernel_rfl)) (fun _ _ _ h => h) (Or.inl ⟨by rfl, ?_⟩) ?_ ?_
                          rotate_left
                          · intro w'
                            go_simp
                            first | with_reducible rfl | (rw [if_neg (by have hz0_ : (⟨#[]⟩ : ByteArray).size = 0 := rfl; (try simp only [decide_eq_true_eq, ByteArray.size_append, ByteArray.size_extract, eq_iff_iff, iff_true, iff_false, Nat.not_lt] at *); omega)]; try with_reducible rfl)
                          rotate_left
                          · simp only [Act.put, List.setIfInBounds_toArray, List.set_cons_zero, List.set_cons_succ, i64_w, i32_w]
                            rfl
                          refine pure_ (i := 4) (N := some 68) (v := ?_) (a' := ?_) #[true, false, true, false, true, false, false, false, false, false, false, false, false, false, false, false] rfl rfl (any_of HT_.out (by kernel_rfl)) (fun _ _ _ h => h) (Or.inl ⟨by rfl, ?_⟩) ?_ ?_
                          rotate_left
                          · intro w'
                            go_simp
                            first | with_reducible rfl | (rw [if_neg (by have hz0_ : (⟨#[]⟩ : ByteArray).size = 0 := rfl; (try simp only [decide_eq_true_eq, ByteArray.size_append, ByteArray.size_extract, eq_iff_iff, iff_true, iff_false, Nat.not_lt] at *); omega)]; try with_reducible rfl)
                          rotate_left
                          · simp only [Act.put, List.setIfInBounds_toArray, List.set_cons_zero, List.set_cons_succ, i64_w, i32_w]
                            rfl
                          refine pure_ (i := 5) (N := some 69) (v := ?_) (a' := ?_) #[true, false, true, false, true, true, false, false, false, false, false, false, false, false, false, false] rfl rfl (any_of HT_.out (by kernel_rfl)) (fun _ _ _ h => h) (Or.inl ⟨by rfl, ?_⟩) ?_ ?_
                          rotate_left
                          · intro w'
                            go_simp
                            first | with_reducible rfl | (rw [if_neg (by have hz0_ : (⟨#[]⟩ : ByteArray).size = 0 := rfl; (try simp only [decide_eq_true_eq, ByteArray.size_append, ByteArray.size_extract, eq_iff_iff, iff_true, iff_false, Nat.not_lt] at *); omega)]; try with_reducible rfl)
                          rotate_left
                          · simp only [Act.put, List.setIfInBounds_toArray, List.set_cons_zero, List.set_cons_succ, i64_w, i32_w]
                            rfl
                          refine pure_ (i := 6) (N := some 70) (v := ?_) (a' := ?_) #[true, false, true, false, true, true, true, false, false, false, false, false, false, false, false, false] rfl rfl (any_of HT_.out (by kernel_rfl)) (fun _ _ _ h => h) (Or.inl ⟨by rfl, ?_⟩) ?_ ?_
                          rotate_left
                          · intro w'
                            go_simp
                            first | with_reducible rfl | (rw [if_neg (by have hz0_ : (⟨#[]⟩ : ByteArray).size = 0 := rfl; (try simp only [decide_eq_true_eq, ByteArray.size_append, ByteArray.size_extract, eq_iff_iff, iff_true, iff_false, Nat.not_lt] at *); omega)]; try with_reducible rfl)
                          rotate_left
                          · simp only [Act.put, List.setIfInBounds_toArray, List.set_cons_zero, List.set_cons_succ, i64_w, i32_w]
                            rfl
                          refine pure_ (i := 7) (N := some 71) (v := ?_) (a' := ?_) #[true, false, true, false, true, true, true, true, false, false, false, false, false, false, false, false] rfl rfl (any_of HT_.out (by kernel_rfl)) (fun _ _ _ h => h) (Or.inl ⟨by rfl, ?_⟩) ?_ ?_
                          rotate_left
                          · intro w'
                            go_simp
                            first | with_reducible rfl | (rw [if_neg (by have hz0_ : (⟨#[]⟩ : ByteArray).size = 0 := rfl; (try simp only [decide_eq_true_eq, ByteArray.size_append, ByteArray.size_extract, eq_iff_iff, iff_true, iff_false, Nat.not_lt] at *); omega)]; try with_reducible rfl)
                          rotate_left
                          · simp only [Act.put, List.setIfInBounds_toArray, List.set_cons_zero, List.set_cons_succ, i64_w, i32_w]
                            rfl
                          refine pure_ (i := 8) (N := some 72) (v := ?_) (a' := ?_) #[true, false, true, false, true, true, true, true, true, false, false, false, false, false, false, false] rfl rfl (any_of HT_.out (by kernel_rfl)) (fun _ _ _ h => h) (Or.inl ⟨by rfl, ?_⟩) ?_ ?_
                          rotate_left
                          · intro w'
                            go_simp
                            first | with_reducible rfl | (rw [if_neg (by have hz0_ : (⟨#[]⟩ : ByteArray).size = 0 := rfl; (try simp only [decide_eq_true_eq, ByteArray.size_append, ByteArray.size_extract, eq_iff_iff, iff_true, iff_false, Nat.not_lt] at *); omega)]; try with_reducible rfl)
                          rotate_left
                          · simp only [Act.put, List.setIfInBounds_toArray, List.set_cons_zero, List.set_cons_succ, i64_w, i32_w]
                            rfl
                          refine take_ (i := 1) (N := some 65) (v := ?_) (a' := ?_) #[true, true, true, false, true, true, true, true, true, false, false, false, false, false, false, false] rfl rfl (take_ofW HT_.out HW_.out (by kernel_rfl)) (fun _ _ _ h => h) (Or.inl ⟨by rfl, ?_⟩) hHeld ?_ ?_
                          rotate_left
                          · rintro w' ⟨s0, s1⟩
                            go_simp
                            with_reducible rfl
                          rotate_left
                          · simp only [Act.put, List.setIfInBounds_toArray, List.set_cons_zero, List.set_cons_succ, i64_w, i32_w]
                            rfl
                          refine take_ (i := 3) (N := some 67) (v := ?_) (a' := ?_) #[true, true, true, true, true, true, true, true, true, false, false, false, false, false, false, false] rfl rfl (take_ofW HT_.out HW_.out (by kernel_rfl)) (fun _ _ _ h => h) (Or.inl ⟨by rfl, ?_⟩) hHeld ?_ ?_
                          rotate_left
                          · rintro w' ⟨s0, s1⟩
                            go_simp
                            with_reducible rfl
                          rotate_left
                          · simp only [Act.put, List.setIfInBounds_toArray, List.set_cons_zero, List.set_cons_succ, i64_w, i32_w]
                            rfl
                          refine join_ (σ := Nat) 2 #[true, true, true, true, true, true, true, true, true, true, true, true, true, true, false, false] (fun s_ => [(73, .tuple #[.agg #[.int .i64 t259, .int .i64 t260, .bool t261, .string t262], .int .i64 t263]), (13, .pointer (some ⟨s_, 0, none⟩)), (63, .tuple #[.agg #[.int .i64 t259, .int .i64 t260, .bool t261, .string t262], .int .i64 t263]), (74, .agg #[.int .i64 t259, .int .i64 t260, .bool t261, .string t262]), (75, .int .i64 t263)]) (fun s_ w' => (w'.cell? ⟨gb238, 0, none⟩ = some (.int .u32 a0_0) ∧ w'.cell? ⟨gb238, 1, none⟩ = some (.int .u32 a0_1)) ∧ (w'.heap[gb238]? = some (.cells #[.int .u32 a0_0, .int .u32 a0_1] 24 (0, 0))) ∧ (w'.heap[gb239]? = some (.cells #[.int .i64 t240, .int .i64 t241, .bool t242, .string t243] 26 (0, 0))) ∧ (w'.heap[gb252]? = some (.cells #[.int .i64 t247, .int .i64 t248, .bool t249, .string t250] 26 (0, 0))) ∧ (w'.heap[gb258]? = some (.cells #[.int .i64 t253, .int .i64 t254, .bool t255, .string t256] 26 (0, 0))) ∧ (w'.heap[s_]? = some (.cells #[.int .i64 0, .int .i64 0, .bool false, .string (⟨#[]⟩ : ByteArray)] 26 (0, 0))) ∧ (w.heap.size ≤ s_) ∧ (w.heap.size ≤ s_) ∧ (gb238 ≠ s_) ∧ (s_ ≠ gb238) ∧ (gb239 ≠ s_) ∧ (s_ ≠ gb239) ∧ (gb252 ≠ s_) ∧ (s_ ≠ gb252) ∧ (gb258 ≠ s_) ∧ (s_ ≠ gb258) ∧ (Below w.heap.size w w')) ?_ ?_
                          rotate_left
                          · intro hCont
                            refine two_ (i := 9) (j := 13) (Ni := some 73) (Nj := some 13) #[true, true, true, true, true, true, true, true, true, true, false, false, false, false, false, false] #[true, true, true, true, true, true, true, true, true, false, false, false, false, true, false, false] rfl rfl rfl rfl (two_of HT_.out (by kernel_rfl)) (by decide) (by decide) (fun K hK => ?_) (fun K hK => ?_)
                            · skip
                              refine goes_ Tryd.func14 (by kernel_rfl) rfl #[.int .u32 a0_0, .int .u32 a0_1, .string (t244.extract 0 ((ji21) : Int).toNat)] (by first | rfl | exact wanted_on rfl rfl rfl (by first | rfl | (simp [*]; done) | (simp [*, IntKind.wrap_u32]; done))) rfl rfl (by (try simp only [List.map_toArray, List.map_cons, List.map_nil]); first | done | (simp only [hji21]; rfl) | rfl | (simp only [List.length_drop, List.length_take]; rfl)) ?_
                              with_reducible refine (udp_Parse.calls kj4 a0_0 a0_1 (t244.extract 0 ((ji21) : Int).toNat) t259 t260 t261 t262 t263 _ A24.out).mono ?_
                              rintro e w50 ⟨rfl, hb⟩
                              refine ⟨_, rfl, ?_⟩
                              have n0_ := Aside0.mk (blk_below (g := gb238) (o := .cells #[.int .u32 a0_0, .int .u32 a0_1] 24 (0, 0)) (by (with_reducible repeat (first | refine blk_drewN ?_ _ | refine blk_drew ?_ | refine blk_alloc ?_ _)); exact BK238.out) hb)
                              have n1_ := Aside0.mk (blk_below (g := gb239) (o := .cells #[.int .i64 t240, .int .i64 t241, .bool t242, .string t243] 26 (0, 0)) (by (with_reducible repeat (first | refine blk_drewN ?_ _ | refine blk_drew ?_ | refine blk_alloc ?_ _)); exact BK239.out) hb)
                              have n2_ := Aside0.mk (blk_below (g := gb252) (o := .cells #[.int .i64 t247, .int .i64 t248, .bool t249, .string t250] 26 (0, 0)) (by (with_reducible repeat (first | refine blk_drewN ?_ _ | refine blk_drew ?_ | refine blk_alloc ?_ _)); exact BK252.out) hb)
                              have n3_ := Aside0.mk (blk_below (g := gb258) (o := .cells #[.int .i64 t253, .int .i64 t254, .bool t255, .string t256] 26 (0, 0)) (by (with_reducible repeat (first | refine blk_drewN ?_ _ | refine blk_drew ?_ | refine blk_alloc ?_ _)); exact BK258.out) hb)
                              have n4_ := Aside0.mk (below_step (by repeat (first | (with_reducible first | exact HB.out | apply below_alloc | apply pw_below_drewN | apply below_drew1 | refine below_set ?_ GE238.out | refine below_set ?_ GE239.out | refine below_set ?_ GE252.out | refine below_set ?_ GE258.out) | exact HB.out)) hb)
                              clear BK238
                              clear BK239
                              clear BK252
                              clear BK258
                              clear HB
                              have BK238 := n0_
                              have BK239 := n1_
                              have BK252 := n2_
                              have BK258 := n3_
                              have HB := n4_
                              clear n0_ n1_ n2_ n3_ n4_
                              (try clear hb)
                              (try clear hb2)
                              (try clear hk)
                              (try clear hi)
                              refine hK.out _ _ ⟨(blk_cell BK238.out 0).trans rfl, (blk_cell BK238.out 1).trans rfl⟩ (fun hHeld => ?_)
                              clear hK K
                              refine norm_ (a' := ?_) ?_ ?_
                              rotate_left
                              · show Act.put _ (some 73) _ = _
                                simp only [Act.put, List.setIfInBounds_toArray, List.set_cons_zero, List.set_cons_succ, i64_w, i32_w]
                                rfl
                              refine pure_ (i := 10) (N := some 63) (v := ?_) (a' := ?_) #[true, true, true, true, true, true, true, true, true, true, true, false, false, false, false, false] rfl rfl (any_of HT_.out (by kernel_rfl)) (fun _ _ _ h => h) (Or.inl ⟨by rfl, ?_⟩) ?_ ?_
                              rotate_left
                              · intro w'
                                go_simp
                                first | with_reducible rfl | (rw [if_neg (by have hz0_ : (⟨#[]⟩ : ByteArray).size = 0 := rfl; (try simp only [decide_eq_true_eq, ByteArray.size_append, ByteArray.size_extract, eq_iff_iff, iff_true, iff_false, Nat.not_lt] at *); omega)]; try with_reducible rfl)
                              rotate_left
                              · simp only [Act.put, List.setIfInBounds_toArray, List.set_cons_zero, List.set_cons_succ, i64_w, i32_w]
                                rfl
                              refine pure_ (i := 11) (N := some 74) (v := ?_) (a' := ?_) #[true, true, true, true, true, true, true, true, true, true, true, true, false, false, false, false] rfl rfl (any_of HT_.out (by kernel_rfl)) (fun _ _ _ h => h) (Or.inl ⟨by rfl, ?_⟩) ?_ ?_
                              rotate_left
                              · intro w'
                                go_simp
                                first | with_reducible rfl | (rw [if_neg (by have hz0_ : (⟨#[]⟩ : ByteArray).size = 0 := rfl; (try simp only [decide_eq_true_eq, ByteArray.size_append, ByteArray.size_extract, eq_iff_iff, iff_true, iff_false, Nat.not_lt] at *); omega)]; try with_reducible rfl)
                              rotate_left
                              · simp only [Act.put, List.setIfInBounds_toArray, List.set_cons_zero, List.set_cons_succ, i64_w, i32_w]
                                rfl
                              refine pure_ (i := 12) (N := some 75) (v := ?_) (a' := ?_) #[true, true, true, true, true, true, true, true, true, true, true, true, true, false, false, false] rfl rfl (any_of HT_.out (by kernel_rfl)) (fun _ _ _ h => h) (Or.inl ⟨by rfl, ?_⟩) ?_ ?_
                              rotate_left
                              · intro w'
                                go_simp
                                first | with_reducible rfl | (rw [if_neg (by have hz0_ : (⟨#[]⟩ : ByteArray).size = 0 := rfl; (try simp only [decide_eq_true_eq, ByteArray.size_append, ByteArray.size_extract, eq_iff_iff, iff_true, iff_false, Nat.not_lt] at *); omega)]; try with_reducible rfl)
                              rotate_left
                              · simp only [Act.put, List.setIfInBounds_toArray, List.set_cons_zero, List.set_cons_succ, i64_w, i32_w]
                                rfl
                              refine one_ (i := 13) (N := some 13) #[true, true, true, true, true, true, true, true, true, true, true, true, true, true, false, false] rfl rfl (one_of HT_.out (by kernel_rfl)) (by decide) (fun K hK => ?_)
                              refine box_step ?hg (N := 13) ?hd (cs := #[.int .i64 0, .int .i64 0, .bool false, .string (⟨#[]⟩ : ByteArray)]) (t := 26) ?hr ?_; (case hd => rfl); (case hg => rfl); (case hr => first | (go_simp; done) | (go_simp; rfl))
                              intro gb264 hg w51 hbox hb
                              have n0_ := Aside0.mk (blk_below (g := gb238) (o := .cells #[.int .u32 a0_0, .int .u32 a0_1] 24 (0, 0)) (by (with_reducible repeat (first | refine blk_drewN ?_ _ | refine blk_drew ?_ | refine blk_alloc ?_ _)); exact BK238.out) hb)
                              have n1_ := Aside0.mk (blk_below (g := gb239) (o := .cells #[.int .i64 t240, .int .i64 t241, .bool t242, .string t243] 26 (0, 0)) (by (with_reducible repeat (first | refine blk_drewN ?_ _ | refine blk_drew ?_ | refine blk_alloc ?_ _)); exact BK239.out) hb)
                              have n2_ := Aside0.mk (blk_below (g := gb252) (o := .cells #[.int .i64 t247, .int .i64 t248, .bool t249, .string t250] 26 (0, 0)) (by (with_reducible repeat (first | refine blk_drewN ?_ _ | refine blk_drew ?_ | refine blk_alloc ?_ _)); exact BK252.out) hb)
                              have n3_ := Aside0.mk (blk_below (g := gb258) (o := .cells #[.int .i64 t253, .int .i64 t254, .bool t255, .string t256] 26 (0, 0)) (by (with_reducible repeat (first | refine blk_drewN ?_ _ | refine blk_drew ?_ | refine blk_alloc ?_ _)); exact BK258.out) hb)
                              have n4_ := Aside0.mk (below_step (by repeat (first | (with_reducible first | exact HB.out | apply below_alloc | apply pw_below_drewN | apply below_drew1 | refine below_set ?_ GE238.out | refine below_set ?_ GE239.out | refine below_set ?_ GE252.out | refine below_set ?_ GE258.out) | exact HB.out)) hb)
                              have n5_ := Aside0.mk (hbox)
                              have n6_ := Aside0.mk ((by rw [hg]; exact (below_size (by repeat (first | (with_reducible first | exact HB.out | apply below_alloc | apply pw_below_drewN | apply below_drew1 | refine below_set ?_ GE238.out | refine below_set ?_ GE239.out | refine below_set ?_ GE252.out | refine below_set ?_ GE258.out) | exact HB.out))) : w.heap.size ≤ gb264))
                              have n7_ := Aside0.mk ((by rw [hg]; exact (below_size (by repeat (first | (with_reducible first | exact HB.out | apply below_alloc | apply pw_below_drewN | apply below_drew1 | refine below_set ?_ GE238.out | refine below_set ?_ GE239.out | refine below_set ?_ GE252.out | refine below_set ?_ GE258.out) | exact HB.out))) : w.heap.size ≤ gb264))
                              have n8_ := Aside0.mk ((by rw [hg]; exact Nat.ne_of_lt (blk_lt (g := gb238) (o := .cells #[.int .u32 a0_0, .int .u32 a0_1] 24 (0, 0)) (by (with_reducible repeat (first | refine blk_drewN ?_ _ | refine blk_drew ?_ | refine blk_alloc ?_ _)); exact BK238.out)) : gb238 ≠ gb264))
                              have n9_ := Aside0.mk ((by rw [hg]; exact Nat.ne_of_gt (blk_lt (g := gb238) (o := .cells #[.int .u32 a0_0, .int .u32 a0_1] 24 (0, 0)) (by (with_reducible repeat (first | refine blk_drewN ?_ _ | refine blk_drew ?_ | refine blk_alloc ?_ _)); exact BK238.out)) : gb264 ≠ gb238))
                              have n10_ := Aside0.mk ((by rw [hg]; exact Nat.ne_of_lt (blk_lt (g := gb239) (o := .cells #[.int .i64 t240, .int .i64 t241, .bool t242, .string t243] 26 (0, 0)) (by (with_reducible repeat (first | refine blk_drewN ?_ _ | refine blk_drew ?_ | refine blk_alloc ?_ _)); exact BK239.out)) : gb239 ≠ gb264))
                              have n11_ := Aside0.mk ((by rw [hg]; exact Nat.ne_of_gt (blk_lt (g := gb239) (o := .cells #[.int .i64 t240, .int .i64 t241, .bool t242, .string t243] 26 (0, 0)) (by (with_reducible repeat (first | refine blk_drewN ?_ _ | refine blk_drew ?_ | refine blk_alloc ?_ _)); exact BK239.out)) : gb264 ≠ gb239))
                              have n12_ := Aside0.mk ((by rw [hg]; exact Nat.ne_of_lt (blk_lt (g := gb252) (o := .cells #[.int .i64 t247, .int .i64 t248, .bool t249, .string t250] 26 (0, 0)) (by (with_reducible repeat (first | refine blk_drewN ?_ _ | refine blk_drew ?_ | refine blk_alloc ?_ _)); exact BK252.out)) : gb252 ≠ gb264))
                              have n13_ := Aside0.mk ((by rw [hg]; exact Nat.ne_of_gt (blk_lt (g := gb252) (o := .cells #[.int .i64 t247, .int .i64 t248, .bool t249, .string t250] 26 (0, 0)) (by (with_reducible repeat (first | refine blk_drewN ?_ _ | refine blk_drew ?_ | refine blk_alloc ?_ _)); exact BK252.out)) : gb264 ≠ gb252))
                              have n14_ := Aside0.mk ((by rw [hg]; exact Nat.ne_of_lt (blk_lt (g := gb258) (o := .cells #[.int .i64 t253, .int .i64 t254, .bool t255, .string t256] 26 (0, 0)) (by (with_reducible repeat (first | refine blk_drewN ?_ _ | refine blk_drew ?_ | refine blk_alloc ?_ _)); exact BK258.out)) : gb258 ≠ gb264))
                              have n15_ := Aside0.mk ((by rw [hg]; exact Nat.ne_of_gt (blk_lt (g := gb258) (o := .cells #[.int .i64 t253, .int .i64 t254, .bool t255, .string t256] 26 (0, 0)) (by (with_reducible repeat (first | refine blk_drewN ?_ _ | refine blk_drew ?_ | refine blk_alloc ?_ _)); exact BK258.out)) : gb264 ≠ gb258))
                              clear BK238
                              clear BK239
                              clear BK252
                              clear BK258
                              clear HB
                              have BK238 := n0_
                              have BK239 := n1_
                              have BK252 := n2_
                              have BK258 := n3_
                              have HB := n4_
                              have BK264 := n5_
                              have GW264 := n6_
                              have GE264 := n7_
                              have NB238_264 := n8_
                              have NB264_238 := n9_
                              have NB239_264 := n10_
                              have NB264_239 := n11_
                              have NB252_264 := n12_
                              have NB264_252 := n13_
                              have NB258_264 := n14_
                              have NB264_258 := n15_
                              clear n0_ n1_ n2_ n3_ n4_ n5_ n6_ n7_ n8_ n9_ n10_ n11_ n12_ n13_ n14_ n15_
                              clear hb hbox hg
                              refine hK.out _ _ ⟨(blk_cell BK238.out 0).trans rfl, (blk_cell BK238.out 1).trans rfl⟩ (fun hHeld => ?_)
                              clear hK K
                              refine norm_ (a' := ?_) ?_ ?_
                              rotate_left
                              · show Act.put _ (some 13) _ = _
                                simp only [Act.put, List.setIfInBounds_toArray, List.set_cons_zero, List.set_cons_succ, i64_w, i32_w]
                                rfl
                              exact norm_ (by simp only [putAll, Act.put, List.setIfInBounds_toArray, List.set_cons_zero, List.set_cons_succ]) (hCont (gb264) _ ⟨hHeld, (by (with_reducible repeat (first | refine blk_drewN ?_ _ | refine blk_drew ?_ | refine blk_alloc ?_ _)); exact BK238.out), (by (with_reducible repeat (first | refine blk_drewN ?_ _ | refine blk_drew ?_ | refine blk_alloc ?_ _)); exact BK239.out), (by (with_reducible repeat (first | refine blk_drewN ?_ _ | refine blk_drew ?_ | refine blk_alloc ?_ _)); exact BK252.out), (by (with_reducible repeat (first | refine blk_drewN ?_ _ | refine blk_drew ?_ | refine blk_alloc ?_ _)); exact BK258.out), (by (with_reducible repeat (first | refine blk_drewN ?_ _ | refine blk_drew ?_ | refine blk_alloc ?_ _)); exact BK264.out), GW264.out, GE264.out, NB238_264.out, NB264_238.out, NB239_264.out, NB264_239.out, NB252_264.out, NB264_252.out, NB258_264.out, NB264_258.out, (by repeat (first | (with_reducible first | exact HB.out | apply below_alloc | apply pw_below_drewN | apply below_drew1 | refine below_set ?_ GE238.out | refine below_set ?_ GE239.out | refine below_set ?_ GE252.out | refine below_set ?_ GE258.out | refine below_set ?_ GE264.out) | exact HB.out))⟩)
                            · skip
                              refine box_step ?hg (N := 13) ?hd (cs := #[.int .i64 0, .int .i64 0, .bool false, .string (⟨#[]⟩ : ByteArray)]) (t := 26) ?hr ?_; (case hd => rfl); (case hg => rfl); (case hr => first | (go_simp; done) | (go_simp; rfl))
                              intro gb264 hg w50 hbox hb
                              have n0_ := Aside0.mk (blk_below (g := gb238) (o := .cells #[.int .u32 a0_0, .int .u32 a0_1] 24 (0, 0)) (by (with_reducible repeat (first | refine blk_drewN ?_ _ | refine blk_drew ?_ | refine blk_alloc ?_ _)); exact BK238.out) hb)
                              have n1_ := Aside0.mk (blk_below (g := gb239) (o := .cells #[.int .i64 t240, .int .i64 t241, .bool t242, .string t243] 26 (0, 0)) (by (with_reducible repeat (first | refine blk_drewN ?_ _ | refine blk_drew ?_ | refine blk_alloc ?_ _)); exact BK239.out) hb)
                              have n2_ := Aside0.mk (blk_below (g := gb252) (o := .cells #[.int .i64 t247, .int .i64 t248, .bool t249, .string t250] 26 (0, 0)) (by (with_reducible repeat (first | refine blk_drewN ?_ _ | refine blk_drew ?_ | refine blk_alloc ?_ _)); exact BK252.out) hb)
                              have n3_ := Aside0.mk (blk_below (g := gb258) (o := .cells #[.int .i64 t253, .int .i64 t254, .bool t255, .string t256] 26 (0, 0)) (by (with_reducible repeat (first | refine blk_drewN ?_ _ | refine blk_drew ?_ | refine blk_alloc ?_ _)); exact BK258.out) hb)
                              have n4_ := Aside0.mk (below_step (by repeat (first | (with_reducible first | exact HB.out | apply below_alloc | apply pw_below_drewN | apply below_drew1 | refine below_set ?_ GE238.out | refine below_set ?_ GE239.out | refine below_set ?_ GE252.out | refine below_set ?_ GE258.out) | exact HB.out)) hb)
                              have n5_ := Aside0.mk (hbox)
                              have n6_ := Aside0.mk ((by rw [hg]; exact (below_size (by repeat (first | (with_reducible first | exact HB.out | apply below_alloc | apply pw_below_drewN | apply below_drew1 | refine below_set ?_ GE238.out | refine below_set ?_ GE239.out | refine below_set ?_ GE252.out | refine below_set ?_ GE258.out) | exact HB.out))) : w.heap.size ≤ gb264))
                              have n7_ := Aside0.mk ((by rw [hg]; exact (below_size (by repeat (first | (with_reducible first | exact HB.out | apply below_alloc | apply pw_below_drewN | apply below_drew1 | refine below_set ?_ GE238.out | refine below_set ?_ GE239.out | refine below_set ?_ GE252.out | refine below_set ?_ GE258.out) | exact HB.out))) : w.heap.size ≤ gb264))
                              have n8_ := Aside0.mk ((by rw [hg]; exact Nat.ne_of_lt (blk_lt (g := gb238) (o := .cells #[.int .u32 a0_0, .int .u32 a0_1] 24 (0, 0)) (by (with_reducible repeat (first | refine blk_drewN ?_ _ | refine blk_drew ?_ | refine blk_alloc ?_ _)); exact BK238.out)) : gb238 ≠ gb264))
                              have n9_ := Aside0.mk ((by rw [hg]; exact Nat.ne_of_gt (blk_lt (g := gb238) (o := .cells #[.int .u32 a0_0, .int .u32 a0_1] 24 (0, 0)) (by (with_reducible repeat (first | refine blk_drewN ?_ _ | refine blk_drew ?_ | refine blk_alloc ?_ _)); exact BK238.out)) : gb264 ≠ gb238))
                              have n10_ := Aside0.mk ((by rw [hg]; exact Nat.ne_of_lt (blk_lt (g := gb239) (o := .cells #[.int .i64 t240, .int .i64 t241, .bool t242, .string t243] 26 (0, 0)) (by (with_reducible repeat (first | refine blk_drewN ?_ _ | refine blk_drew ?_ | refine blk_alloc ?_ _)); exact BK239.out)) : gb239 ≠ gb264))
                              have n11_ := Aside0.mk ((by rw [hg]; exact Nat.ne_of_gt (blk_lt (g := gb239) (o := .cells #[.int .i64 t240, .int .i64 t241, .bool t242, .string t243] 26 (0, 0)) (by (with_reducible repeat (first | refine blk_drewN ?_ _ | refine blk_drew ?_ | refine blk_alloc ?_ _)); exact BK239.out)) : gb264 ≠ gb239))
                              have n12_ := Aside0.mk ((by rw [hg]; exact Nat.ne_of_lt (blk_lt (g := gb252) (o := .cells #[.int .i64 t247, .int .i64 t248, .bool t249, .string t250] 26 (0, 0)) (by (with_reducible repeat (first | refine blk_drewN ?_ _ | refine blk_drew ?_ | refine blk_alloc ?_ _)); exact BK252.out)) : gb252 ≠ gb264))
                              have n13_ := Aside0.mk ((by rw [hg]; exact Nat.ne_of_gt (blk_lt (g := gb252) (o := .cells #[.int .i64 t247, .int .i64 t248, .bool t249, .string t250] 26 (0, 0)) (by (with_reducible repeat (first | refine blk_drewN ?_ _ | refine blk_drew ?_ | refine blk_alloc ?_ _)); exact BK252.out)) : gb264 ≠ gb252))
                              have n14_ := Aside0.mk ((by rw [hg]; exact Nat.ne_of_lt (blk_lt (g := gb258) (o := .cells #[.int .i64 t253, .int .i64 t254, .bool t255, .string t256] 26 (0, 0)) (by (with_reducible repeat (first | refine blk_drewN ?_ _ | refine blk_drew ?_ | refine blk_alloc ?_ _)); exact BK258.out)) : gb258 ≠ gb264))
                              have n15_ := Aside0.mk ((by rw [hg]; exact Nat.ne_of_gt (blk_lt (g := gb258) (o := .cells #[.int .i64 t253, .int .i64 t254, .bool t255, .string t256] 26 (0, 0)) (by (with_reducible repeat (first | refine blk_drewN ?_ _ | refine blk_drew ?_ | refine blk_alloc ?_ _)); exact BK258.out)) : gb264 ≠ gb258))
                              clear BK238
                              clear BK239
                              clear BK252
                              clear BK258
                              clear HB
                              have BK238 := n0_
                              have BK239 := n1_
                              have BK252 := n2_
                              have BK258 := n3_
                              have HB := n4_
                              have BK264 := n5_
                              have GW264 := n6_
                              have GE264 := n7_
                              have NB238_264 := n8_
                              have NB264_238 := n9_
                              have NB239_264 := n10_
                              have NB264_239 := n11_
                              have NB252_264 := n12_
                              have NB264_252 := n13_
                              have NB258_264 := n14_
                              have NB264_258 := n15_
                              clear n0_ n1_ n2_ n3_ n4_ n5_ n6_ n7_ n8_ n9_ n10_ n11_ n12_ n13_ n14_ n15_
                              clear hb hbox hg
                              refine hK.out _ _ ⟨(blk_cell BK238.out 0).trans rfl, (blk_cell BK238.out 1).trans rfl⟩ (fun hHeld => ?_)
                              clear hK K
                              refine norm_ (a' := ?_) ?_ ?_
                              rotate_left
                              · show Act.put _ (some 13) _ = _
                                simp only [Act.put, List.setIfInBounds_toArray, List.set_cons_zero, List.set_cons_succ, i64_w, i32_w]
                                rfl
                              refine one_ (i := 9) (N := some 73) #[true, true, true, true, true, true, true, true, true, true, false, false, false, true, false, false] rfl rfl (one_of HT_.out (by kernel_rfl)) (by decide) (fun K hK => ?_)
                              refine goes_ Tryd.func14 (by kernel_rfl) rfl #[.int .u32 a0_0, .int .u32 a0_1, .string (t244.extract 0 ((ji21) : Int).toNat)] (by first | rfl | exact wanted_on rfl rfl rfl (by first | rfl | (simp [*]; done) | (simp [*, IntKind.wrap_u32]; done))) rfl rfl (by (try simp only [List.map_toArray, List.map_cons, List.map_nil]); first | done | (simp only [hji21]; rfl) | rfl | (simp only [List.length_drop, List.length_take]; rfl)) ?_
                              with_reducible refine (udp_Parse.calls kj4 a0_0 a0_1 (t244.extract 0 ((ji21) : Int).toNat) t259 t260 t261 t262 t263 _ A24.out).mono ?_
                              rintro e w51 ⟨rfl, hb⟩
                              refine ⟨_, rfl, ?_⟩
                              have n0_ := Aside0.mk (blk_below (g := gb238) (o := .cells #[.int .u32 a0_0, .int .u32 a0_1] 24 (0, 0)) (by (with_reducible repeat (first | refine blk_drewN ?_ _ | refine blk_drew ?_ | refine blk_alloc ?_ _)); exact BK238.out) hb)
                              have n1_ := Aside0.mk (blk_below (g := gb239) (o := .cells #[.int .i64 t240, .int .i64 t241, .bool t242, .string t243] 26 (0, 0)) (by (with_reducible repeat (first | refine blk_drewN ?_ _ | refine blk_drew ?_ | refine blk_alloc ?_ _)); exact BK239.out) hb)
                              have n2_ := Aside0.mk (blk_below (g := gb252) (o := .cells #[.int .i64 t247, .int .i64 t248, .bool t249, .string t250] 26 (0, 0)) (by (with_reducible repeat (first | refine blk_drewN ?_ _ | refine blk_drew ?_ | refine blk_alloc ?_ _)); exact BK252.out) hb)
                              have n3_ := Aside0.mk (blk_below (g := gb258) (o := .cells #[.int .i64 t253, .int .i64 t254, .bool t255, .string t256] 26 (0, 0)) (by (with_reducible repeat (first | refine blk_drewN ?_ _ | refine blk_drew ?_ | refine blk_alloc ?_ _)); exact BK258.out) hb)
                              have n4_ := Aside0.mk (blk_below (g := gb264) (o := .cells #[.int .i64 0, .int .i64 0, .bool false, .string (⟨#[]⟩ : ByteArray)] 26 (0, 0)) (by (with_reducible repeat (first | refine blk_drewN ?_ _ | refine blk_drew ?_ | refine blk_alloc ?_ _)); exact BK264.out) hb)
                              have n5_ := Aside0.mk (below_step (by repeat (first | (with_reducible first | exact HB.out | apply below_alloc | apply pw_below_drewN | apply below_drew1 | refine below_set ?_ GE238.out | refine below_set ?_ GE239.out | refine below_set ?_ GE252.out | refine below_set ?_ GE258.out | refine below_set ?_ GE264.out) | exact HB.out)) hb)
                              clear BK238
                              clear BK239
                              clear BK252
                              clear BK258
                              clear BK264
                              clear HB
                              have BK238 := n0_
                              have BK239 := n1_
                              have BK252 := n2_
                              have BK258 := n3_
                              have BK264 := n4_
                              have HB := n5_
                              clear n0_ n1_ n2_ n3_ n4_ n5_
                              (try clear hb)
                              (try clear hb2)
                              (try clear hk)
                              (try clear hi)
                              refine hK.out _ _ ⟨(blk_cell BK238.out 0).trans rfl, (blk_cell BK238.out 1).trans rfl⟩ (fun hHeld => ?_)
                              clear hK K
                              refine norm_ (a' := ?_) ?_ ?_
                              rotate_left
                              · show Act.put _ (some 73) _ = _
                                simp only [Act.put, List.setIfInBounds_toArray, List.set_cons_zero, List.set_cons_succ, i64_w, i32_w]
                                rfl
                              refine pure_ (i := 10) (N := some 63) (v := ?_) (a' := ?_) #[true, true, true, true, true, true, true, true, true, true, true, false, false, true, false, false] rfl rfl (any_of HT_.out (by kernel_rfl)) (fun _ _ _ h => h) (Or.inl ⟨by rfl, ?_⟩) ?_ ?_
                              rotate_left
                              · intro w'
                                go_simp
                                first | with_reducible rfl | (rw [if_neg (by have hz0_ : (⟨#[]⟩ : ByteArray).size = 0 := rfl; (try simp only [decide_eq_true_eq, ByteArray.size_append, ByteArray.size_extract, eq_iff_iff, iff_true, iff_false, Nat.not_lt] at *); omega)]; try with_reducible rfl)
                              rotate_left
                              · simp only [Act.put, List.setIfInBounds_toArray, List.set_cons_zero, List.set_cons_succ, i64_w, i32_w]
                                rfl
                              refine pure_ (i := 11) (N := some 74) (v := ?_) (a' := ?_) #[true, true, true, true, true, true, true, true, true, true, true, true, false, true, false, false] rfl rfl (any_of HT_.out (by kernel_rfl)) (fun _ _ _ h => h) (Or.inl ⟨by rfl, ?_⟩) ?_ ?_
                              rotate_left
                              · intro w'
                                go_simp
                                first | with_reducible rfl | (rw [if_neg (by have hz0_ : (⟨#[]⟩ : ByteArray).size = 0 := rfl; (try simp only [decide_eq_true_eq, ByteArray.size_append, ByteArray.size_extract, eq_iff_iff, iff_true, iff_false, Nat.not_lt] at *); omega)]; try with_reducible rfl)
                              rotate_left
                              · simp only [Act.put, List.setIfInBounds_toArray, List.set_cons_zero, List.set_cons_succ, i64_w, i32_w]
                                rfl
                              refine pure_ (i := 12) (N := some 75) (v := ?_) (a' := ?_) #[true, true, true, true, true, true, true, true, true, true, true, true, true, true, false, false] rfl rfl (any_of HT_.out (by kernel_rfl)) (fun _ _ _ h => h) (Or.inl ⟨by rfl, ?_⟩) ?_ ?_
                              rotate_left
                              · intro w'
                                go_simp
                                first | with_reducible rfl | (rw [if_neg (by have hz0_ : (⟨#[]⟩ : ByteArray).size = 0 := rfl; (try simp only [decide_eq_true_eq, ByteArray.size_append, ByteArray.size_extract, eq_iff_iff, iff_true, iff_false, Nat.not_lt] at *); omega)]; try with_reducible rfl)
                              rotate_left
                              · simp only [Act.put, List.setIfInBounds_toArray, List.set_cons_zero, List.set_cons_succ, i64_w, i32_w]
                                rfl
                              exact norm_ (by simp only [putAll, Act.put, List.setIfInBounds_toArray, List.set_cons_zero, List.set_cons_succ]) (hCont (gb264) _ ⟨hHeld, (by (with_reducible repeat (first | refine blk_drewN ?_ _ | refine blk_drew ?_ | refine blk_alloc ?_ _)); exact BK238.out), (by (with_reducible repeat (first | refine blk_drewN ?_ _ | refine blk_drew ?_ | refine blk_alloc ?_ _)); exact BK239.out), (by (with_reducible repeat (first | refine blk_drewN ?_ _ | refine blk_drew ?_ | refine blk_alloc ?_ _)); exact BK252.out), (by (with_reducible repeat (first | refine blk_drewN ?_ _ | refine blk_drew ?_ | refine blk_alloc ?_ _)); exact BK258.out), (by (with_reducible repeat (first | refine blk_drewN ?_ _ | refine blk_drew ?_ | refine blk_alloc ?_ _)); exact BK264.out), GW264.out, GE264.out, NB238_264.out, NB264_238.out, NB239_264.out, NB264_239.out, NB252_264.out, NB264_252.out, NB258_264.out, NB264_258.out, (by repeat (first | (with_reducible first | exact HB.out | apply below_alloc | apply pw_below_drewN | apply below_drew1 | refine below_set ?_ GE238.out | refine below_set ?_ GE239.out | refine below_set ?_ GE252.out | refine below_set ?_ GE258.out | refine below_set ?_ GE264.out) | exact HB.out))⟩)
                          rintro gb264 w52 ⟨hS_, h0_, h1_, h2_, h3_, h4_, h5_, h6_, h7_, h8_, h9_, h10_, h11_, h12_, h13_, h14_, h15_⟩
                          have n0_ : Aside0 (w52.heap[gb238]? = some (.cells #[.int .u32 a0_0, .int .u32 a0_1] 24 (0, 0))) := ⟨h0_⟩
                          have n1_ : Aside0 (w52.heap[gb239]? = some (.cells #[.int .i64 t240, .int .i64 t241, .bool t242, .string t243] 26 (0, 0))) := ⟨h1_⟩
                          have n2_ : Aside0 (w52.heap[gb252]? = some (.cells #[.int .i64 t247, .int .i64 t248, .bool t249, .string t250] 26 (0, 0))) := ⟨h2_⟩
                          have n3_ : Aside0 (w52.heap[gb258]? = some (.cells #[.int .i64 t253, .int .i64 t254, .bool t255, .string t256] 26 (0, 0))) := ⟨h3_⟩
                          have n4_ : Aside0 (w52.heap[gb264]? = some (.cells #[.int .i64 0, .int .i64 0, .bool false, .string (⟨#[]⟩ : ByteArray)] 26 (0, 0))) := ⟨h4_⟩
                          have n5_ : Aside0 (w.heap.size ≤ gb264) := ⟨h5_⟩
                          have n6_ : Aside0 (w.heap.size ≤ gb264) := ⟨h6_⟩
                          have n7_ : Aside0 (gb238 ≠ gb264) := ⟨h7_⟩
                          have n8_ : Aside0 (gb264 ≠ gb238) := ⟨h8_⟩
                          have n9_ : Aside0 (gb239 ≠ gb264) := ⟨h9_⟩
                          have n10_ : Aside0 (gb264 ≠ gb239) := ⟨h10_⟩
                          have n11_ : Aside0 (gb252 ≠ gb264) := ⟨h11_⟩
                          have n12_ : Aside0 (gb264 ≠ gb252) := ⟨h12_⟩
                          have n13_ : Aside0 (gb258 ≠ gb264) := ⟨h13_⟩
                          have n14_ : Aside0 (gb264 ≠ gb258) := ⟨h14_⟩
                          have n15_ : Aside0 (Below w.heap.size w w52) := ⟨h15_⟩
                          clear BK238
                          clear BK239
                          clear BK252
                          clear BK258
                          clear HB
                          clear h0_ h1_ h2_ h3_ h4_ h5_ h6_ h7_ h8_ h9_ h10_ h11_ h12_ h13_ h14_ h15_
                          have BK238 := n0_
                          have BK239 := n1_
                          have BK252 := n2_
                          have BK258 := n3_
                          have BK264 := n4_
                          have GW264 := n5_
                          have GE264 := n6_
                          have NB238_264 := n7_
                          have NB264_238 := n8_
                          have NB239_264 := n9_
                          have NB264_239 := n10_
                          have NB252_264 := n11_
                          have NB264_252 := n12_
                          have NB258_264 := n13_
                          have NB264_258 := n14_
                          have HB := n15_
                          clear n0_ n1_ n2_ n3_ n4_ n5_ n6_ n7_ n8_ n9_ n10_ n11_ n12_ n13_ n14_ n15_
                          have hHeld : w52.cell? ⟨gb238, 0, none⟩ = some (.int .u32 a0_0) ∧ w52.cell? ⟨gb238, 1, none⟩ = some (.int .u32 a0_1) := hS_
                          refine norm_ (a' := ?_) ?_ ?_
                          rotate_left
                          · simp only [putAll, Act.put, List.setIfInBounds_toArray, List.set_cons_zero, List.set_cons_succ]
                            rfl
                          refine one_ (i := 14) (N := none) #[true, true, true, true, true, true, true, true, true, true, true, true, true, true, true, false] rfl rfl (one_of HT_.out (by kernel_rfl)) (by decide) (fun K hK => ?_)
                          have hs53 : w52.cell? ⟨gb264, 0, none⟩ = some (.int .i64 0) := (blk_cell BK264.out 0).trans rfl
                          have hfs53 := blk_frozen BK264.out 0
                          have hns53_0 := NB238_264.out
                          have hns53_1 := NB239_264.out
                          have hns53_2 := NB252_264.out
                          have hns53_3 := NB258_264.out
                          have hms53_0 := NB264_238.out
                          have hms53_1 := NB264_239.out
                          have hms53_2 := NB264_252.out
                          have hms53_3 := NB264_258.out
                          have hs54 : w52.cell? ⟨gb264, 1, none⟩ = some (.int .i64 0) := (blk_cell BK264.out 1).trans rfl
                          have hfs54 := blk_frozen BK264.out 1
                          have hns54_0 := NB238_264.out
                          have hns54_1 := NB239_264.out
                          have hns54_2 := NB252_264.out
                          have hns54_3 := NB258_264.out
                          have hms54_0 := NB264_238.out
                          have hms54_1 := NB264_239.out
                          have hms54_2 := NB264_252.out
                          have hms54_3 := NB264_258.out
                          have hs55 : w52.cell? ⟨gb264, 2, none⟩ = some (.bool false) := (blk_cell BK264.out 2).trans rfl
                          have hfs55 := blk_frozen BK264.out 2
                          have hns55_0 := NB238_264.out
                          have hns55_1 := NB239_264.out
                          have hns55_2 := NB252_264.out
                          have hns55_3 := NB258_264.out
                          have hms55_0 := NB264_238.out
                          have hms55_1 := NB264_239.out
                          have hms55_2 := NB264_252.out
                          have hms55_3 := NB264_258.out
                          have hs56 : w52.cell? ⟨gb264, 3, none⟩ = some (.string (⟨#[]⟩ : ByteArray)) := (blk_cell BK264.out 3).trans rfl
                          have hfs56 := blk_frozen BK264.out 3
                          have hns56_0 := NB238_264.out
                          have hns56_1 := NB239_264.out
                          have hns56_2 := NB252_264.out
                          have hns56_3 := NB258_264.out
                          have hms56_0 := NB264_238.out
                          have hms56_1 := NB264_239.out
                          have hms56_2 := NB264_252.out
                          have hms56_3 := NB264_258.out
                          refine skip_ (w1 := ?_) (by rfl) rfl ?_ ?_
                          rotate_left
                          · go_simp
                            rfl
                          refine hK.out _ _ ⟨((cell_far (p := ⟨gb264, _, none⟩) NB238_264.out _).trans (((cell_far (p := ⟨gb264, _, none⟩) NB238_264.out _).trans (((cell_far (p := ⟨gb264, _, none⟩) NB238_264.out _).trans (((cell_far (p := ⟨gb264, _, none⟩) NB238_264.out _).trans (hHeld.1)))))))), ((cell_far (p := ⟨gb264, _, none⟩) NB238_264.out _).trans (((cell_far (p := ⟨gb264, _, none⟩) NB238_264.out _).trans (((cell_far (p := ⟨gb264, _, none⟩) NB238_264.out _).trans (((cell_far (p := ⟨gb264, _, none⟩) NB238_264.out _).trans (hHeld.2))))))))⟩ (fun hHeld => ?_)
                          clear hK K
                          refine pure_ (i := 15) (N := some 14) (v := ?_) (a' := ?_) #[true, true, true, true, true, true, true, true, true, true, true, true, true, true, true, true] rfl rfl (any_of HT_.out (by kernel_rfl)) (fun _ _ _ h => h) (Or.inl ⟨by rfl, ?_⟩) ?_ ?_
                          rotate_left
                          · intro w'
                            go_simp
                            first | with_reducible rfl | (rw [if_neg (by have hz0_ : (⟨#[]⟩ : ByteArray).size = 0 := rfl; (try simp only [decide_eq_true_eq, ByteArray.size_append, ByteArray.size_extract, eq_iff_iff, iff_true, iff_false, Nat.not_lt] at *); omega)]; try with_reducible rfl)
                          rotate_left
                          · simp only [Act.put, List.setIfInBounds_toArray, List.set_cons_zero, List.set_cons_succ, i64_w, i32_w]
                            rfl
                          refine done_ (done_of HT_.out (by kernel_rfl)) ?_
                          have hnb57 := NB252_264.out
                          have hnc57 := NB264_252.out
                          have hcz58_0 : w52.cell? ⟨gb252, 0, none⟩ = some (.int .i64 t247) := (blk_cell BK252.out 0).trans rfl
                          have hcz58_1 : w52.cell? ⟨gb252, 1, none⟩ = some (.int .i64 t248) := (blk_cell BK252.out 1).trans rfl
                          have hcz58_2 : w52.cell? ⟨gb252, 2, none⟩ = some (.bool t249) := (blk_cell BK252.out 2).trans rfl
                          have hcz58_3 : w52.cell? ⟨gb252, 3, none⟩ = some (.string t250) := (blk_cell BK252.out 3).trans rfl
                          have hfz58_0 := blk_frozen BK252.out 0
                          have hfz58_1 := blk_frozen BK252.out 1
                          have hfz58_2 := blk_frozen BK252.out 2
                          have hfz58_3 := blk_frozen BK252.out 3
                          have hnb59 := NB239_264.out
                          have hnc59 := NB264_239.out
                          have hcz60_0 : w52.cell? ⟨gb239, 0, none⟩ = some (.int .i64 t240) := (blk_cell BK239.out 0).trans rfl
                          have hcz60_1 : w52.cell? ⟨gb239, 1, none⟩ = some (.int .i64 t241) := (blk_cell BK239.out 1).trans rfl
                          have hcz60_2 : w52.cell? ⟨gb239, 2, none⟩ = some (.bool t242) := (blk_cell BK239.out 2).trans rfl
                          have hcz60_3 : w52.cell? ⟨gb239, 3, none⟩ = some (.string t243) := (blk_cell BK239.out 3).trans rfl
                          have hfz60_0 := blk_frozen BK239.out 0
                          have hfz60_1 := blk_frozen BK239.out 1
                          have hfz60_2 := blk_frozen BK239.out 2
                          have hfz60_3 := blk_frozen BK239.out 3
                          have hnb61 := NB258_264.out
                          have hnc61 := NB264_258.out
                          have hcz62_0 : w52.cell? ⟨gb258, 0, none⟩ = some (.int .i64 t253) := (blk_cell BK258.out 0).trans rfl
                          have hcz62_1 : w52.cell? ⟨gb258, 1, none⟩ = some (.int .i64 t254) := (blk_cell BK258.out 1).trans rfl
                          have hcz62_2 : w52.cell? ⟨gb258, 2, none⟩ = some (.bool t255) := (blk_cell BK258.out 2).trans rfl
                          have hcz62_3 : w52.cell? ⟨gb258, 3, none⟩ = some (.string t256) := (blk_cell BK258.out 3).trans rfl
                          have hfz62_0 := blk_frozen BK258.out 0
                          have hfz62_1 := blk_frozen BK258.out 1
                          have hfz62_2 := blk_frozen BK258.out 2
                          have hfz62_3 := blk_frozen BK258.out 3
                          try go_wp2_with (first | (go_at_call 11; (with_reducible refine (gangwaylaw07_fixed.calls kj4  t265 _ A30.out).mono ?_); rintro e w63 ⟨rfl, hb⟩; have n0_ := Aside0.mk (blk_below (g := gb238) (o := .cells #[.int .u32 a0_0, .int .u32 a0_1] 24 (0, 0)) (by (with_reducible repeat (first | refine blk_drewN ?_ _ | refine blk_drew ?_ | refine blk_alloc ?_ _)); refine blk_far ?_ NB238_264.out _; (with_reducible repeat (first | refine blk_drewN ?_ _ | refine blk_drew ?_ | refine blk_alloc ?_ _)); refine blk_far ?_ NB238_264.out _; (with_reducible repeat (first | refine blk_drewN ?_ _ | refine blk_drew ?_ | refine blk_alloc ?_ _)); refine blk_far ?_ NB238_264.out _; (with_reducible repeat (first | refine blk_drewN ?_ _ | refine blk_drew ?_ | refine blk_alloc ?_ _)); refine blk_far ?_ NB238_264.out _; (with_reducible repeat (first | refine blk_drewN ?_ _ | refine blk_drew ?_ | refine blk_alloc ?_ _)); exact BK238.out) hb); have n1_ := Aside0.mk (blk_below (g := gb239) (o := .cells #[.int .i64 t240, .int .i64 t241, .bool t242, .string t243] 26 (0, 0)) (by (with_reducible repeat (first | refine blk_drewN ?_ _ | refine blk_drew ?_ | refine blk_alloc ?_ _)); refine blk_far ?_ NB239_264.out _; (with_reducible repeat (first | refine blk_drewN ?_ _ | refine blk_drew ?_ | refine blk_alloc ?_ _)); refine blk_far ?_ NB239_264.out _; (with_reducible repeat (first | refine blk_drewN ?_ _ | refine blk_drew ?_ | refine blk_alloc ?_ _)); refine blk_far ?_ NB239_264.out _; (with_reducible repeat (first | refine blk_drewN ?_ _ | refine blk_drew ?_ | refine blk_alloc ?_ _)); refine blk_far ?_ NB239_264.out _; (with_reducible repeat (first | refine blk_drewN ?_ _ | refine blk_drew ?_ | refine blk_alloc ?_ _)); exact BK239.out) hb); have n2_ := Aside0.mk (blk_below (g := gb252) (o := .cells #[.int .i64 t247, .int .i64 t248, .bool t249, .string t250] 26 (0, 0)) (by (with_reducible repeat (first | refine blk_drewN ?_ _ | refine blk_drew ?_ | refine blk_alloc ?_ _)); refine blk_far ?_ NB252_264.out _; (with_reducible repeat (first | refine blk_drewN ?_ _ | refine blk_drew ?_ | refine blk_alloc ?_ _)); refine blk_far ?_ NB252_264.out _; (with_reducible repeat (first | refine blk_drewN ?_ _ | refine blk_drew ?_ | refine blk_alloc ?_ _)); refine blk_far ?_ NB252_264.out _; (with_reducible repeat (first | refine blk_drewN ?_ _ | refine blk_drew ?_ | refine blk_alloc ?_ _)); refine blk_far ?_ NB252_264.out _; (with_reducible repeat (first | refine blk_drewN ?_ _ | refine blk_drew ?_ | refine blk_alloc ?_ _)); exact BK252.out) hb); have n3_ := Aside0.mk (blk_below (g := gb258) (o := .cells #[.int .i64 t253, .int .i64 t254, .bool t255, .string t256] 26 (0, 0)) (by (with_reducible repeat (first | refine blk_drewN ?_ _ | refine blk_drew ?_ | refine blk_alloc ?_ _)); refine blk_far ?_ NB258_264.out _; (with_reducible repeat (first | refine blk_drewN ?_ _ | refine blk_drew ?_ | refine blk_alloc ?_ _)); refine blk_far ?_ NB258_264.out _; (with_reducible repeat (first | refine blk_drewN ?_ _ | refine blk_drew ?_ | refine blk_alloc ?_ _)); refine blk_far ?_ NB258_264.out _; (with_reducible repeat (first | refine blk_drewN ?_ _ | refine blk_drew ?_ | refine blk_alloc ?_ _)); refine blk_far ?_ NB258_264.out _; (with_reducible repeat (first | refine blk_drewN ?_ _ | refine blk_drew ?_ | refine blk_alloc ?_ _)); exact BK258.out) hb); have n4_ := Aside0.mk (blk_below (g := gb264) (o := .cells #[.int .i64 t259, .int .i64 t260, .bool t261, .string t262] 26 (0, 0)) (by (with_reducible repeat (first | refine blk_drewN ?_ _ | refine blk_drew ?_ | refine blk_alloc ?_ _)); refine blk_put (cs := #[.int .i64 t259, .int .i64 t260, .bool t261, .string (⟨#[]⟩ : ByteArray)]) ?_ 3 _ rfl; (with_reducible repeat (first | refine blk_drewN ?_ _ | refine blk_drew ?_ | refine blk_alloc ?_ _)); refine blk_put (cs := #[.int .i64 t259, .int .i64 t260, .bool false, .string (⟨#[]⟩ : ByteArray)]) ?_ 2 _ rfl; (with_reducible repeat (first | refine blk_drewN ?_ _ | refine blk_drew ?_ | refine blk_alloc ?_ _)); refine blk_put (cs := #[.int .i64 t259, .int .i64 0, .bool false, .string (⟨#[]⟩ : ByteArray)]) ?_ 1 _ rfl; (with_reducible repeat (first | refine blk_drewN ?_ _ | refine blk_drew ?_ | refine blk_alloc ?_ _)); refine blk_put (cs := #[.int .i64 0, .int .i64 0, .bool false, .string (⟨#[]⟩ : ByteArray)]) ?_ 0 _ rfl; (with_reducible repeat (first | refine blk_drewN ?_ _ | refine blk_drew ?_ | refine blk_alloc ?_ _)); exact BK264.out) hb); have n5_ := Aside0.mk (below_step (by repeat (first | (with_reducible first | exact HB.out | apply below_alloc | apply pw_below_drewN | apply below_drew1 | refine below_set ?_ GE238.out | refine below_set ?_ GE239.out | refine below_set ?_ GE252.out | refine below_set ?_ GE258.out | refine below_set ?_ GE264.out) | exact HB.out)) hb); clear BK238; clear BK239; clear BK252; clear BK258; clear BK264; clear HB; have BK238 := n0_; have BK239 := n1_; have BK252 := n2_; have BK258 := n3_; have BK264 := n4_; have HB := n5_; clear n0_ n1_ n2_ n3_ n4_ n5_; have hcy1_238_0 := (show World.cell? _ ⟨gb238, 0, none⟩ = some (.int .u32 a0_0) from (blk_cell BK238.out 0).trans rfl); have hcy1_238_1 := (show World.cell? _ ⟨gb238, 1, none⟩ = some (.int .u32 a0_1) from (blk_cell BK238.out 1).trans rfl); (try clear hb); (try clear hb2); (try clear hk); (try clear hi)))
                          go_ret
                          exact ⟨by first | rfl | (simp [errW_none, errW_some] <;> rfl) | (simp only [← hji21]; first | rfl | (simp [errW_none, errW_some] <;> rfl)) | (simp [*, errW_none, errW_some] <;> rfl) | (simp [*, IntKind.wrap_u32]; done) | (simp_all [IntKind.wrap_u32]; done), by repeat (first | (with_reducible first | exact HB.out | apply below_alloc | apply pw_below_drewN | apply below_drew1 | refine below_set ?_ GE238.out | refine below_set ?_ GE239.out | refine below_set ?_ GE252.out | refine below_set ?_ GE258.out | refine below_set ?_ GE264.out) | exact HB.out)⟩
                        · rw [if_neg c29] at H
                          exact absurd H (by simp)
                      · rw [if_neg c28] at H
                        exact absurd H (by simp)
                    · rw [if_neg c27] at H
                      exact absurd H (by simp)
                  · rw [if_neg c26] at H
                    exact absurd H (by simp)
                · rw [if_neg c25] at H
                  exact absurd H (by simp)
              · rw [if_neg c23] at H
                exact absurd H (by simp)
            · rw [if_neg c22] at H
              exact absurd H (by simp)
          · rw [if_neg c18] at H
            exact absurd H (by simp)
      · rw [if_neg c16] at H
        have c16b0 : (t245 == 0) = false := beq_eq_false_iff_ne.mpr c16
        have c16b1 : (t245 != 0) = true := bne_iff_ne.mpr c16
        by_cases c64 : t244.toList = ([] : List UInt8)
        · rw [if_pos c64] at H
          have c64b0 : (t244.toList == ([] : List UInt8)) = true := beq_iff_eq.mpr c64
          have c64b1 : (t244.toList != ([] : List UInt8)) = false := bne_eq_false_iff_eq.mpr c64
          clear c64
          replace H := Option.bind_eq_some_iff.mp H
          obtain ⟨t246, A650, H⟩ := H
          replace H : (some t246) = some r := H
          have A65 := Aside0.mk A650
          clear A650
          obtain rfl := Option.some.inj H
          have hnb66 := NB238_239.out
          have hnc66 := NB239_238.out
          have hcz67_0 : wc.cell? ⟨gb238, 0, none⟩ = some (.int .u32 a0_0) := (blk_cell BK238.out 0).trans rfl
          have hcz67_1 : wc.cell? ⟨gb238, 1, none⟩ = some (.int .u32 a0_1) := (blk_cell BK238.out 1).trans rfl
          have hfz67_0 := blk_frozen BK238.out 0
          have hfz67_1 := blk_frozen BK238.out 1
          have hcz68_0 : wc.cell? ⟨gb239, 0, none⟩ = some (.int .i64 t240) := (blk_cell BK239.out 0).trans rfl
          have hcz68_1 : wc.cell? ⟨gb239, 1, none⟩ = some (.int .i64 t241) := (blk_cell BK239.out 1).trans rfl
          have hcz68_2 : wc.cell? ⟨gb239, 2, none⟩ = some (.bool t242) := (blk_cell BK239.out 2).trans rfl
          have hcz68_3 : wc.cell? ⟨gb239, 3, none⟩ = some (.string t243) := (blk_cell BK239.out 3).trans rfl
          have hfz68_0 := blk_frozen BK239.out 0
          have hfz68_1 := blk_frozen BK239.out 1
          have hfz68_2 := blk_frozen BK239.out 2
          have hfz68_3 := blk_frozen BK239.out 3
          go_wp2_with (first | ((with_reducible refine gate_callee (f := 9) rfl ?_); refine goesL_ (some 28) rfl rfl Tryd.func9 (by kernel_rfl) rfl #[.int .u32 a0_0, .int .u32 a0_1, .agg #[.int .i64 t240, .int .i64 t241, .bool t242, .string t243]] rfl (by (try simp only [List.map_toArray, List.map_cons, List.map_nil]); first | done | rfl | (simp only [List.length_drop, List.length_take]; rfl)) ?_; (with_reducible refine (udp_Build.calls kj4 a0_0 a0_1 t240 t241 t242 t243 t244 t245 _ A15.out).mono ?_); rintro e w69 ⟨rfl, hb⟩; refine ⟨_, rfl, ?_⟩; have n0_ := Aside0.mk (blk_below (g := gb238) (o := .cells #[.int .u32 a0_0, .int .u32 a0_1] 24 (0, 0)) (by (with_reducible repeat (first | refine blk_drewN ?_ _ | refine blk_drew ?_ | refine blk_alloc ?_ _)); exact BK238.out) hb); have n1_ := Aside0.mk (blk_below (g := gb239) (o := .cells #[.int .i64 t240, .int .i64 t241, .bool t242, .string t243] 26 (0, 0)) (by (with_reducible repeat (first | refine blk_drewN ?_ _ | refine blk_drew ?_ | refine blk_alloc ?_ _)); exact BK239.out) hb); have n2_ := Aside0.mk (below_step (by repeat (first | (with_reducible first | exact HB.out | apply below_alloc | apply pw_below_drewN | apply below_drew1 | refine below_set ?_ GE238.out | refine below_set ?_ GE239.out) | exact HB.out)) hb); clear BK238; clear BK239; clear HB; have BK238 := n0_; have BK239 := n1_; have HB := n2_; clear n0_ n1_ n2_; have hcy1_238_0 := (show World.cell? _ ⟨gb238, 0, none⟩ = some (.int .u32 a0_0) from (blk_cell BK238.out 0).trans rfl); have hcy1_238_1 := (show World.cell? _ ⟨gb238, 1, none⟩ = some (.int .u32 a0_1) from (blk_cell BK238.out 1).trans rfl); (try clear hb); (try clear hb2); (try clear hk); (try clear hi)) | (go_at_call 11; (with_reducible refine (gangwaylaw07_fixed.calls kj4  t246 _ A65.out).mono ?_); rintro e w70 ⟨rfl, hb⟩; have n0_ := Aside0.mk (blk_below (g := gb238) (o := .cells #[.int .u32 a0_0, .int .u32 a0_1] 24 (0, 0)) (by (with_reducible repeat (first | refine blk_drewN ?_ _ | refine blk_drew ?_ | refine blk_alloc ?_ _)); exact BK238.out) hb); have n1_ := Aside0.mk (blk_below (g := gb239) (o := .cells #[.int .i64 t240, .int .i64 t241, .bool t242, .string t243] 26 (0, 0)) (by (with_reducible repeat (first | refine blk_drewN ?_ _ | refine blk_drew ?_ | refine blk_alloc ?_ _)); exact BK239.out) hb); have n2_ := Aside0.mk (below_step (by repeat (first | (with_reducible first | exact HB.out | apply below_alloc | apply pw_below_drewN | apply below_drew1 | refine below_set ?_ GE238.out | refine below_set ?_ GE239.out) | exact HB.out)) hb); clear BK238; clear BK239; clear HB; have BK238 := n0_; have BK239 := n1_; have HB := n2_; clear n0_ n1_ n2_; have hcy2_238_0 := (show World.cell? _ ⟨gb238, 0, none⟩ = some (.int .u32 a0_0) from (blk_cell BK238.out 0).trans rfl); have hcy2_238_1 := (show World.cell? _ ⟨gb238, 1, none⟩ = some (.int .u32 a0_1) from (blk_cell BK238.out 1).trans rfl); (try clear hb); (try clear hb2); (try clear hk); (try clear hi)))
          go_ret
          exact ⟨by first | rfl | (simp [errW_none, errW_some] <;> rfl) | (simp [*, errW_none, errW_some] <;> rfl) | (simp [*, IntKind.wrap_u32]; done) | (simp_all [IntKind.wrap_u32]; done), by repeat (first | (with_reducible first | exact HB.out | apply below_alloc | apply pw_below_drewN | apply below_drew1 | refine below_set ?_ GE238.out | refine below_set ?_ GE239.out) | exact HB.out)⟩
        · rw [if_neg c64] at H
          exact absurd H (by simp)

end Go.Proofs.YtppaikjbafobbaaDoor.P
