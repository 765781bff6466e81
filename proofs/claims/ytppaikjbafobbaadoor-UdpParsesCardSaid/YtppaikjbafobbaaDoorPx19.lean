-- Written by wip/hprint.py (this session's program) through the kit's print program; hand contracts are marked 'by hand'.
import Derived.Test.YtppaikjbafobbaaDoorPx0
import Derived.Test.YtppaikjbafobbaaDoorPx1
import Derived.Test.YtppaikjbafobbaaDoorPx14
import Derived.Test.YtppaikjbafobbaaDoorPx15
import Derived.Test.YtppaikjbafobbaaDoorPx18
namespace Go.Proofs.YtppaikjbafobbaaDoor.P
open Go.RowKit Go.Proofs.YtppaikjbafobbaaDoorW.PrintWords Go.Proofs.YtppaikjbafobbaaDoorW.PrintLast Go.Proofs.YtppaikjbafobbaaDoorW.PrintMore
attribute [local go_sem] max2_int min2_int max_two min_two max_three min_three max_four min_four   -- for this text's walks alone
set_option linter.unusedVariables false
set_option linter.unusedSimpArgs false

attribute [local go_sem high] eqA26
/-! ### gangwaylaw07_UdpParses: function 4 -/
def gangwaylaw07_UdpParses.j0 : Nat → ByteArray → Int → Int → Option (Bool)
  | 0, _, _, _ => none
  | k + 1, x1, x225000, x225001 => (udp_Parse.f k x225000 x225001 x1).bind fun bt225 => ((gangwayref07_Parse.f k x225000 x225001 x1).bind fun bt231 => ((gangwaylaw07_fixed.f k).bind fun t237 => (if t237 = true then (if (bt225.1 == bt231.1 && (bt225.2.1 == bt231.2.1 && (bt225.2.2.1 == bt231.2.2.1 && (bt225.2.2.2.1.toList == bt231.2.2.2.1.toList)))) = true then (some (bt225.2.2.2.2 == bt231.2.2.2.2)) else (none)) else (none))))
def gangwaylaw07_UdpParses.f (k : Nat) (a0_0 : Int) (a0_1 : Int) (a1 : ByteArray) : Option (Bool) := if 0 ≤ (mn (a1.size : Int) 1700) then (if (mn (a1.size : Int) 1700) ≤ (a1.size : Int) then (gangwaylaw07_UdpParses.j0 k (a1.extract 0 ((mn (a1.size : Int) 1700) : Int).toNat) a0_0 a0_1) else (none)) else (none)
theorem gangwaylaw07_UdpParses.mono_l : ∀ k, (∀ y0 y1 y2, LeO (gangwaylaw07_UdpParses.j0 k y0 y1 y2) (gangwaylaw07_UdpParses.j0 (k + 1) y0 y1 y2))
  | 0 => fun _ _ _ r h => by simp [gangwaylaw07_UdpParses.j0] at h
  | k + 1 => by
    have ih0 := gangwaylaw07_UdpParses.mono_l k
    · intro y0 y1 y2
      unfold gangwaylaw07_UdpParses.j0
      repeat' first
      | (with_reducible exact ih0 _ _ _)
      | (with_reducible exact gangwaylaw07_fixed.mono _)
      | (with_reducible exact gangwayref07_Parse.mono _ _ _ _)
      | (with_reducible exact udp_Parse.mono _ _ _ _)
      | (with_reducible exact LeO.refl _)
      | (with_reducible exact LeO.none _)
      | (with_reducible refine LeO.ite ?_ ?_)
      | (with_reducible refine LeO.bind ?_ (fun _ => ?_))
      | exact ih0 _ _ _
      | exact gangwaylaw07_fixed.mono _
      | exact gangwayref07_Parse.mono _ _ _ _
      | exact udp_Parse.mono _ _ _ _
      | exact LeO.none _
      | refine LeO.ite ?_ ?_
      | refine LeO.bind ?_ (fun _ => ?_)
theorem gangwaylaw07_UdpParses.mono : ∀ a0 a1 a2 k, LeO (gangwaylaw07_UdpParses.f k a0 a1 a2) (gangwaylaw07_UdpParses.f (k + 1) a0 a1 a2) := by
  intro a0 a1 a2 k
  have ih0 := gangwaylaw07_UdpParses.mono_l k
  unfold gangwaylaw07_UdpParses.f
  repeat' first
      | (with_reducible exact ih0 _ _ _)
      | (with_reducible exact gangwaylaw07_fixed.mono _)
      | (with_reducible exact gangwayref07_Parse.mono _ _ _ _)
      | (with_reducible exact udp_Parse.mono _ _ _ _)
      | (with_reducible exact LeO.refl _)
      | (with_reducible exact LeO.none _)
      | (with_reducible refine LeO.ite ?_ ?_)
      | (with_reducible refine LeO.bind ?_ (fun _ => ?_))
      | exact ih0 _ _ _
      | exact gangwaylaw07_fixed.mono _
      | exact gangwayref07_Parse.mono _ _ _ _
      | exact udp_Parse.mono _ _ _ _
      | exact LeO.none _
      | refine LeO.ite ?_ ?_
      | refine LeO.bind ?_ (fun _ => ?_)
set_option maxHeartbeats 8000000 in
set_option maxRecDepth 100000 in
theorem gangwaylaw07_UdpParses.calls (k : Nat) (a0_0 : Int) (a0_1 : Int) (a1 : ByteArray) (r : Bool) (w : World) (h : gangwaylaw07_UdpParses.f k a0_0 a0_1 a1 = some r) :
    Calls Tryd.prog 4 #[.agg #[.int .u32 a0_0, .int .u32 a0_1], .string a1] w fun e w' => e = .returned (.bool r) ∧ Below w.heap.size w w' := by
  have hu24 := Tryd.underlying24
  have hu26 := Tryd.underlying26
  have HB := Aside0.mk (Below.refl w.heap.size w)
  have H : (if 0 ≤ (mn (a1.size : Int) 1700) then (if (mn (a1.size : Int) 1700) ≤ (a1.size : Int) then (gangwaylaw07_UdpParses.j0 k (a1.extract 0 ((mn (a1.size : Int) 1700) : Int).toNat) a0_0 a0_1) else (none)) else (none)) = some r := h
  clear h
  have HC3 := Aside0.mk H
  clear H
  go_enter Tryd.func4, Tryd.ntmps4
  go_upto_region 1 with (first | ((with_reducible refine gate_dst (N := 2) rfl ?_); refine box_event ?hg (N := 2) ?hd (cs := #[.int .u32 a0_0, .int .u32 a0_1]) (t := 24) ?hr ?_; (case hd => rfl); (case hg => rfl); (case hr => first | (go_simp; done) | (go_simp; rfl)); intro gb224 hg w4 hbox hb; have n0_ := Aside0.mk (below_step (by repeat (first | (with_reducible first | exact HB.out | apply below_alloc | apply pw_below_drewN | apply below_drew1) | exact HB.out)) hb); have n1_ := Aside0.mk (hbox); have n2_ := Aside0.mk ((by rw [hg]; exact (below_size (by repeat (first | (with_reducible first | exact HB.out | apply below_alloc | apply pw_below_drewN | apply below_drew1) | exact HB.out))) : w.heap.size ≤ gb224)); have n3_ := Aside0.mk ((by rw [hg]; exact (below_size (by repeat (first | (with_reducible first | exact HB.out | apply below_alloc | apply pw_below_drewN | apply below_drew1) | exact HB.out))) : w.heap.size ≤ gb224)); clear HB; have HB := n0_; have BK224 := n1_; have GW224 := n2_; have GE224 := n3_; clear n0_ n1_ n2_ n3_; clear hb hbox hg))
  (try simp only [Act.put, List.setIfInBounds_toArray, List.set_cons_zero, List.set_cons_succ])
  go_cut [1] (fun v1 wc => ∃ (kq : Nat) (x1_2 : ByteArray), v1 = .string x1_2 ∧ Aside0 (gangwaylaw07_UdpParses.j0 kq x1_2 a0_0 a0_1 = some r) ∧ Aside0 (kq ≤ k) ∧ Aside0 (wc.heap[gb224]? = some (.cells #[.int .u32 a0_0, .int .u32 a0_1] 24 (0, 0))) ∧ Aside0 (Below w.heap.size w wc))
  case first =>
    have H := HC3.out
    clear HC3
    obtain ⟨ji5, hji5⟩ : ∃ j_ : Int, (mn (a1.size : Int) 1700) = j_ := ⟨_, rfl⟩
    replace H : (if 0 ≤ (ji5) then (if (ji5) ≤ (a1.size : Int) then (gangwaylaw07_UdpParses.j0 k (a1.extract 0 ((ji5) : Int).toNat) a0_0 a0_1) else (none)) else (none)) = some r := by first | (rw [hji5] at H; exact H) | (simp only [hji5] at H ⊢; exact H)
    (try (have hji5h : ji5 ≤ 1700 := by (rw [← hji5]; unfold mn; (repeat' split) <;> omega)))
    (try (have hji5g : ji5 ≤ 64 := by omega))
    (try (have hji5l : 0 ≤ ji5 := by (rw [← hji5]; unfold mn; (repeat' split) <;> omega)))
    (try (have hji5m : 0 ≤ ji5 := by omega))
    have hji5_ : (if 1700 < (a1.size : Int) then 1700 else (a1.size : Int)) = ji5 := hji5
    by_cases c6 : 0 ≤ (ji5)
    · rw [if_pos c6] at H
      have c6b0 := eq_true c6
      have c6b1 : decide (0 ≤ (ji5)) = true := decide_eq_true c6
      clear c6
      by_cases c7 : (ji5) ≤ (a1.size : Int)
      · rw [if_pos c7] at H
        have c7b0 := eq_true c7
        have c7b1 : decide ((ji5) ≤ (a1.size : Int)) = true := decide_eq_true c7
        clear c7
        have H' := Aside0.mk H
        clear H
        go_wp2
        go_meet
        case rel => exact ⟨_, (a1.extract 0 ((ji5) : Int).toNat), (by first | rfl | (simp; done) | (simp only [← hji5] <;> (first | rfl | simp)) | (simp [*]; done)), H', ⟨by first | omega | exact Nat.le_refl _⟩, ⟨by (with_reducible repeat (first | refine blk_drewN ?_ _ | refine blk_drew ?_ | refine blk_alloc ?_ _)); exact BK224.out⟩, ⟨by repeat (first | (with_reducible first | exact HB.out | apply below_alloc | apply pw_below_drewN | apply below_drew1 | refine below_set ?_ GE224.out) | exact HB.out)⟩⟩
      · rw [if_neg c7] at H
        exact absurd H (by simp)
    · rw [if_neg c6] at H
      exact absurd H (by simp)
  case rest =>
    clear HC3
    try clear p2
    try clear c4
    try clear c6
    try clear c6b0
    try clear c6b1
    try clear c7
    try clear c7b0
    try clear c7b1
    obtain ⟨kq, x1_2, rfl, HA, HJ2, BK224, HB⟩ := hcut
    cases kq with
    | zero => exact absurd HA.out (by simp [gangwaylaw07_UdpParses.j0])
    | succ kj2 =>
      have H := HA.out
      clear HA
      simp only [gangwaylaw07_UdpParses.j0] at H
      replace H := Option.bind_eq_some_iff.mp H
      obtain ⟨⟨t225, t226, t227, t228, t229⟩, A80, H⟩ := H
      replace H : ((gangwayref07_Parse.f kj2 a0_0 a0_1 x1_2).bind fun bt231 => ((gangwaylaw07_fixed.f kj2).bind fun t237 => (if t237 = true then (if (t225 == bt231.1 && (t226 == bt231.2.1 && (t227 == bt231.2.2.1 && (t228.toList == bt231.2.2.2.1.toList)))) = true then (some (t229 == bt231.2.2.2.2)) else (none)) else (none)))) = some r := H
      have A8 := Aside0.mk A80
      clear A80
      replace H := Option.bind_eq_some_iff.mp H
      obtain ⟨⟨t231, t232, t233, t234, t235⟩, A90, H⟩ := H
      replace H : ((gangwaylaw07_fixed.f kj2).bind fun t237 => (if t237 = true then (if (t225 == t231 && (t226 == t232 && (t227 == t233 && (t228.toList == t234.toList)))) = true then (some (t229 == t235)) else (none)) else (none))) = some r := H
      have A9 := Aside0.mk A90
      clear A90
      replace H := Option.bind_eq_some_iff.mp H
      obtain ⟨t237, A100, H⟩ := H
      replace H : (if t237 = true then (if (t225 == t231 && (t226 == t232 && (t227 == t233 && (t228.toList == t234.toList)))) = true then (some (t229 == t235)) else (none)) else (none)) = some r := H
      have A10 := Aside0.mk A100
      clear A100
      by_cases c11 : t237 = true
      · subst c11
        have H1 : (if (t225 == t231 && (t226 == t232 && (t227 == t233 && (t228.toList == t234.toList)))) = true then (some (t229 == t235)) else (none)) = some r := by rw [if_pos rfl] at H; exact H
        clear H
        have H := H1
        clear H1
        by_cases c12 : (t225 == t231 && (t226 == t232 && (t227 == t233 && (t228.toList == t234.toList)))) = true
        · rw [if_pos c12] at H
          have c12b0 : (t225 == t231 && (t226 == t232 && (t227 == t233 && (t228.toList == t234.toList)))) = true := c12
          (try (have c12b1 : decide (t225 = t231 && (t226 == t232 && (t227 == t233 && (t228.toList == t234.toList)))) = true := by simpa using c12))
          (try (have c12b2 : (t225 == t231 && (t226 == t232 && (t227 == t233 && (t228.toList == t234.toList)))) = true := by simpa using c12))
          clear c12
          obtain rfl := Option.some.inj H
          have hcz13_0 : wc.cell? ⟨gb224, 0, none⟩ = some (.int .u32 a0_0) := (blk_cell BK224.out 0).trans rfl
          have hcz13_1 : wc.cell? ⟨gb224, 1, none⟩ = some (.int .u32 a0_1) := (blk_cell BK224.out 1).trans rfl
          have hfz13_0 := blk_frozen BK224.out 0
          have hfz13_1 := blk_frozen BK224.out 1
          go_wp2_with (first | ((with_reducible refine gate_callee (f := 14) rfl ?_); refine goesL_ (some 20) rfl rfl Tryd.func14 (by kernel_rfl) rfl #[.int .u32 a0_0, .int .u32 a0_1, .string x1_2] rfl (by (try simp only [List.map_toArray, List.map_cons, List.map_nil]); first | done | rfl | (simp only [List.length_drop, List.length_take]; rfl)) ?_; (with_reducible refine (udp_Parse.calls kj2 a0_0 a0_1 x1_2 t225 t226 t227 t228 t229 _ A8.out).mono ?_); rintro e w14 ⟨rfl, hb⟩; refine ⟨_, rfl, ?_⟩; have n0_ := Aside0.mk (blk_below (g := gb224) (o := .cells #[.int .u32 a0_0, .int .u32 a0_1] 24 (0, 0)) (by (with_reducible repeat (first | refine blk_drewN ?_ _ | refine blk_drew ?_ | refine blk_alloc ?_ _)); exact BK224.out) hb); have n1_ := Aside0.mk (below_step (by repeat (first | (with_reducible first | exact HB.out | apply below_alloc | apply pw_below_drewN | apply below_drew1 | refine below_set ?_ GE224.out) | exact HB.out)) hb); clear BK224; clear HB; have BK224 := n0_; have HB := n1_; clear n0_ n1_; have hcy1_224_0 := (show World.cell? _ ⟨gb224, 0, none⟩ = some (.int .u32 a0_0) from (blk_cell BK224.out 0).trans rfl); have hcy1_224_1 := (show World.cell? _ ⟨gb224, 1, none⟩ = some (.int .u32 a0_1) from (blk_cell BK224.out 1).trans rfl); (try clear hb); (try clear hb2); (try clear hk); (try clear hi)) | ((with_reducible refine gate_dst (N := 5) rfl ?_); refine box_event ?hg (N := 5) ?hd (cs := #[.int .i64 0, .int .i64 0, .bool false, .string (⟨#[]⟩ : ByteArray)]) (t := 26) ?hr ?_; (case hd => rfl); (case hg => rfl); (case hr => first | (go_simp; done) | (go_simp; rfl)); intro gb230 hg w15 hbox hb; have n0_ := Aside0.mk (blk_below (g := gb224) (o := .cells #[.int .u32 a0_0, .int .u32 a0_1] 24 (0, 0)) (by (with_reducible repeat (first | refine blk_drewN ?_ _ | refine blk_drew ?_ | refine blk_alloc ?_ _)); exact BK224.out) hb); have n1_ := Aside0.mk (below_step (by repeat (first | (with_reducible first | exact HB.out | apply below_alloc | apply pw_below_drewN | apply below_drew1 | refine below_set ?_ GE224.out) | exact HB.out)) hb); have n2_ := Aside0.mk (hbox); have n3_ := Aside0.mk ((by rw [hg]; exact (below_size (by repeat (first | (with_reducible first | exact HB.out | apply below_alloc | apply pw_below_drewN | apply below_drew1 | refine below_set ?_ GE224.out) | exact HB.out))) : w.heap.size ≤ gb230)); have n4_ := Aside0.mk ((by rw [hg]; exact (below_size (by repeat (first | (with_reducible first | exact HB.out | apply below_alloc | apply pw_below_drewN | apply below_drew1 | refine below_set ?_ GE224.out) | exact HB.out))) : w.heap.size ≤ gb230)); have n5_ := Aside0.mk ((by rw [hg]; exact Nat.ne_of_lt (blk_lt (g := gb224) (o := .cells #[.int .u32 a0_0, .int .u32 a0_1] 24 (0, 0)) (by (with_reducible repeat (first | refine blk_drewN ?_ _ | refine blk_drew ?_ | refine blk_alloc ?_ _)); exact BK224.out)) : gb224 ≠ gb230)); have n6_ := Aside0.mk ((by rw [hg]; exact Nat.ne_of_gt (blk_lt (g := gb224) (o := .cells #[.int .u32 a0_0, .int .u32 a0_1] 24 (0, 0)) (by (with_reducible repeat (first | refine blk_drewN ?_ _ | refine blk_drew ?_ | refine blk_alloc ?_ _)); exact BK224.out)) : gb230 ≠ gb224)); clear BK224; clear HB; have BK224 := n0_; have HB := n1_; have BK230 := n2_; have GW230 := n3_; have GE230 := n4_; have NB224_230 := n5_; have NB230_224 := n6_; clear n0_ n1_ n2_ n3_ n4_ n5_ n6_; have hcy2_224_0 := (show World.cell? _ ⟨gb224, 0, none⟩ = some (.int .u32 a0_0) from (blk_cell BK224.out 0).trans rfl); have hcy2_224_1 := (show World.cell? _ ⟨gb224, 1, none⟩ = some (.int .u32 a0_1) from (blk_cell BK224.out 1).trans rfl); clear hb hbox hg; have hnb16 := NB230_224.out; have hnc16 := NB224_230.out; have hcz17_0 : w15.cell? ⟨gb230, 0, none⟩ = some (.int .i64 0) := (blk_cell BK230.out 0).trans rfl; have hcz17_1 : w15.cell? ⟨gb230, 1, none⟩ = some (.int .i64 0) := (blk_cell BK230.out 1).trans rfl; have hcz17_2 : w15.cell? ⟨gb230, 2, none⟩ = some (.bool false) := (blk_cell BK230.out 2).trans rfl; have hcz17_3 : w15.cell? ⟨gb230, 3, none⟩ = some (.string (⟨#[]⟩ : ByteArray)) := (blk_cell BK230.out 3).trans rfl; have hfz17_0 := blk_frozen BK230.out 0; have hfz17_1 := blk_frozen BK230.out 1; have hfz17_2 := blk_frozen BK230.out 2; have hfz17_3 := blk_frozen BK230.out 3; have hcz18_0 : w15.cell? ⟨gb224, 0, none⟩ = some (.int .u32 a0_0) := (blk_cell BK224.out 0).trans rfl; have hcz18_1 : w15.cell? ⟨gb224, 1, none⟩ = some (.int .u32 a0_1) := (blk_cell BK224.out 1).trans rfl; have hfz18_0 := blk_frozen BK224.out 0; have hfz18_1 := blk_frozen BK224.out 1) | ((with_reducible refine gate_callee (f := 15) rfl ?_); refine goesL_ (some 29) rfl rfl Tryd.func15 (by kernel_rfl) rfl #[.int .u32 a0_0, .int .u32 a0_1, .string x1_2] rfl (by (try simp only [List.map_toArray, List.map_cons, List.map_nil]); first | done | rfl | (simp only [List.length_drop, List.length_take]; rfl)) ?_; (with_reducible refine (gangwayref07_Parse.calls kj2 a0_0 a0_1 x1_2 t231 t232 t233 t234 t235 _ A9.out).mono ?_); rintro e w19 ⟨rfl, hb⟩; refine ⟨_, rfl, ?_⟩; have n0_ := Aside0.mk (blk_below (g := gb224) (o := .cells #[.int .u32 a0_0, .int .u32 a0_1] 24 (0, 0)) (by (with_reducible repeat (first | refine blk_drewN ?_ _ | refine blk_drew ?_ | refine blk_alloc ?_ _)); refine blk_far ?_ NB224_230.out _; (with_reducible repeat (first | refine blk_drewN ?_ _ | refine blk_drew ?_ | refine blk_alloc ?_ _)); refine blk_far ?_ NB224_230.out _; (with_reducible repeat (first | refine blk_drewN ?_ _ | refine blk_drew ?_ | refine blk_alloc ?_ _)); refine blk_far ?_ NB224_230.out _; (with_reducible repeat (first | refine blk_drewN ?_ _ | refine blk_drew ?_ | refine blk_alloc ?_ _)); refine blk_far ?_ NB224_230.out _; (with_reducible repeat (first | refine blk_drewN ?_ _ | refine blk_drew ?_ | refine blk_alloc ?_ _)); exact BK224.out) hb); have n1_ := Aside0.mk (blk_below (g := gb230) (o := .cells #[.int .i64 t225, .int .i64 t226, .bool t227, .string t228] 26 (0, 0)) (by (with_reducible repeat (first | refine blk_drewN ?_ _ | refine blk_drew ?_ | refine blk_alloc ?_ _)); refine blk_put (cs := #[.int .i64 t225, .int .i64 t226, .bool t227, .string (⟨#[]⟩ : ByteArray)]) ?_ 3 _ rfl; (with_reducible repeat (first | refine blk_drewN ?_ _ | refine blk_drew ?_ | refine blk_alloc ?_ _)); refine blk_put (cs := #[.int .i64 t225, .int .i64 t226, .bool false, .string (⟨#[]⟩ : ByteArray)]) ?_ 2 _ rfl; (with_reducible repeat (first | refine blk_drewN ?_ _ | refine blk_drew ?_ | refine blk_alloc ?_ _)); refine blk_put (cs := #[.int .i64 t225, .int .i64 0, .bool false, .string (⟨#[]⟩ : ByteArray)]) ?_ 1 _ rfl; (with_reducible repeat (first | refine blk_drewN ?_ _ | refine blk_drew ?_ | refine blk_alloc ?_ _)); refine blk_put (cs := #[.int .i64 0, .int .i64 0, .bool false, .string (⟨#[]⟩ : ByteArray)]) ?_ 0 _ rfl; (with_reducible repeat (first | refine blk_drewN ?_ _ | refine blk_drew ?_ | refine blk_alloc ?_ _)); exact BK230.out) hb); have n2_ := Aside0.mk (below_step (by repeat (first | (with_reducible first | exact HB.out | apply below_alloc | apply pw_below_drewN | apply below_drew1 | refine below_set ?_ GE224.out | refine below_set ?_ GE230.out) | exact HB.out)) hb); clear BK224; clear BK230; clear HB; have BK224 := n0_; have BK230 := n1_; have HB := n2_; clear n0_ n1_ n2_; have hcy3_224_0 := (show World.cell? _ ⟨gb224, 0, none⟩ = some (.int .u32 a0_0) from (blk_cell BK224.out 0).trans rfl); have hcy3_224_1 := (show World.cell? _ ⟨gb224, 1, none⟩ = some (.int .u32 a0_1) from (blk_cell BK224.out 1).trans rfl); (try clear hb); (try clear hb2); (try clear hk); (try clear hi)) | ((with_reducible refine gate_dst (N := 7) rfl ?_); refine box_event ?hg (N := 7) ?hd (cs := #[.int .i64 0, .int .i64 0, .bool false, .string (⟨#[]⟩ : ByteArray)]) (t := 26) ?hr ?_; (case hd => rfl); (case hg => rfl); (case hr => first | (go_simp; done) | (go_simp; rfl)); intro gb236 hg w20 hbox hb; have n0_ := Aside0.mk (blk_below (g := gb224) (o := .cells #[.int .u32 a0_0, .int .u32 a0_1] 24 (0, 0)) (by (with_reducible repeat (first | refine blk_drewN ?_ _ | refine blk_drew ?_ | refine blk_alloc ?_ _)); exact BK224.out) hb); have n1_ := Aside0.mk (blk_below (g := gb230) (o := .cells #[.int .i64 t225, .int .i64 t226, .bool t227, .string t228] 26 (0, 0)) (by (with_reducible repeat (first | refine blk_drewN ?_ _ | refine blk_drew ?_ | refine blk_alloc ?_ _)); exact BK230.out) hb); have n2_ := Aside0.mk (below_step (by repeat (first | (with_reducible first | exact HB.out | apply below_alloc | apply pw_below_drewN | apply below_drew1 | refine below_set ?_ GE224.out | refine below_set ?_ GE230.out) | exact HB.out)) hb); have n3_ := Aside0.mk (hbox); have n4_ := Aside0.mk ((by rw [hg]; exact (below_size (by repeat (first | (with_reducible first | exact HB.out | apply below_alloc | apply pw_below_drewN | apply below_drew1 | refine below_set ?_ GE224.out | refine below_set ?_ GE230.out) | exact HB.out))) : w.heap.size ≤ gb236)); have n5_ := Aside0.mk ((by rw [hg]; exact (below_size (by repeat (first | (with_reducible first | exact HB.out | apply below_alloc | apply pw_below_drewN | apply below_drew1 | refine below_set ?_ GE224.out | refine below_set ?_ GE230.out) | exact HB.out))) : w.heap.size ≤ gb236)); have n6_ := Aside0.mk ((by rw [hg]; exact Nat.ne_of_lt (blk_lt (g := gb224) (o := .cells #[.int .u32 a0_0, .int .u32 a0_1] 24 (0, 0)) (by (with_reducible repeat (first | refine blk_drewN ?_ _ | refine blk_drew ?_ | refine blk_alloc ?_ _)); exact BK224.out)) : gb224 ≠ gb236)); have n7_ := Aside0.mk ((by rw [hg]; exact Nat.ne_of_gt (blk_lt (g := gb224) (o := .cells #[.int .u32 a0_0, .int .u32 a0_1] 24 (0, 0)) (by (with_reducible repeat (first | refine blk_drewN ?_ _ | refine blk_drew ?_ | refine blk_alloc ?_ _)); exact BK224.out)) : gb236 ≠ gb224)); have n8_ := Aside0.mk ((by rw [hg]; exact Nat.ne_of_lt (blk_lt (g := gb230) (o := .cells #[.int .i64 t225, .int .i64 t226, .bool t227, .string t228] 26 (0, 0)) (by (with_reducible repeat (first | refine blk_drewN ?_ _ | refine blk_drew ?_ | refine blk_alloc ?_ _)); exact BK230.out)) : gb230 ≠ gb236)); have n9_ := Aside0.mk ((by rw [hg]; exact Nat.ne_of_gt (blk_lt (g := gb230) (o := .cells #[.int .i64 t225, .int .i64 t226, .bool t227, .string t228] 26 (0, 0)) (by (with_reducible repeat (first | refine blk_drewN ?_ _ | refine blk_drew ?_ | refine blk_alloc ?_ _)); exact BK230.out)) : gb236 ≠ gb230)); clear BK224; clear BK230; clear HB; have BK224 := n0_; have BK230 := n1_; have HB := n2_; have BK236 := n3_; have GW236 := n4_; have GE236 := n5_; have NB224_236 := n6_; have NB236_224 := n7_; have NB230_236 := n8_; have NB236_230 := n9_; clear n0_ n1_ n2_ n3_ n4_ n5_ n6_ n7_ n8_ n9_; have hcy4_224_0 := (show World.cell? _ ⟨gb224, 0, none⟩ = some (.int .u32 a0_0) from (blk_cell BK224.out 0).trans rfl); have hcy4_224_1 := (show World.cell? _ ⟨gb224, 1, none⟩ = some (.int .u32 a0_1) from (blk_cell BK224.out 1).trans rfl); clear hb hbox hg; have hnb21 := NB236_224.out; have hnc21 := NB224_236.out; have hnb22 := NB236_230.out; have hnc22 := NB230_236.out; have hcz23_0 : w20.cell? ⟨gb236, 0, none⟩ = some (.int .i64 0) := (blk_cell BK236.out 0).trans rfl; have hcz23_1 : w20.cell? ⟨gb236, 1, none⟩ = some (.int .i64 0) := (blk_cell BK236.out 1).trans rfl; have hcz23_2 : w20.cell? ⟨gb236, 2, none⟩ = some (.bool false) := (blk_cell BK236.out 2).trans rfl; have hcz23_3 : w20.cell? ⟨gb236, 3, none⟩ = some (.string (⟨#[]⟩ : ByteArray)) := (blk_cell BK236.out 3).trans rfl; have hfz23_0 := blk_frozen BK236.out 0; have hfz23_1 := blk_frozen BK236.out 1; have hfz23_2 := blk_frozen BK236.out 2; have hfz23_3 := blk_frozen BK236.out 3) | ((with_reducible refine gate_callee (f := 11) rfl ?_); refine goesL_ (some 32) rfl rfl Tryd.func11 (by kernel_rfl) rfl #[] rfl (by (try simp only [List.map_toArray, List.map_cons, List.map_nil]); first | done | rfl | (simp only [List.length_drop, List.length_take]; rfl)) ?_; (with_reducible refine (gangwaylaw07_fixed.calls kj2  true _ A10.out).mono ?_); rintro e w24 ⟨rfl, hb⟩; refine ⟨_, rfl, ?_⟩; have n0_ := Aside0.mk (blk_below (g := gb224) (o := .cells #[.int .u32 a0_0, .int .u32 a0_1] 24 (0, 0)) (by (with_reducible repeat (first | refine blk_drewN ?_ _ | refine blk_drew ?_ | refine blk_alloc ?_ _)); refine blk_far ?_ NB224_236.out _; (with_reducible repeat (first | refine blk_drewN ?_ _ | refine blk_drew ?_ | refine blk_alloc ?_ _)); refine blk_far ?_ NB224_236.out _; (with_reducible repeat (first | refine blk_drewN ?_ _ | refine blk_drew ?_ | refine blk_alloc ?_ _)); refine blk_far ?_ NB224_236.out _; (with_reducible repeat (first | refine blk_drewN ?_ _ | refine blk_drew ?_ | refine blk_alloc ?_ _)); refine blk_far ?_ NB224_236.out _; (with_reducible repeat (first | refine blk_drewN ?_ _ | refine blk_drew ?_ | refine blk_alloc ?_ _)); exact BK224.out) hb); have n1_ := Aside0.mk (blk_below (g := gb230) (o := .cells #[.int .i64 t225, .int .i64 t226, .bool t227, .string t228] 26 (0, 0)) (by (with_reducible repeat (first | refine blk_drewN ?_ _ | refine blk_drew ?_ | refine blk_alloc ?_ _)); refine blk_far ?_ NB230_236.out _; (with_reducible repeat (first | refine blk_drewN ?_ _ | refine blk_drew ?_ | refine blk_alloc ?_ _)); refine blk_far ?_ NB230_236.out _; (with_reducible repeat (first | refine blk_drewN ?_ _ | refine blk_drew ?_ | refine blk_alloc ?_ _)); refine blk_far ?_ NB230_236.out _; (with_reducible repeat (first | refine blk_drewN ?_ _ | refine blk_drew ?_ | refine blk_alloc ?_ _)); refine blk_far ?_ NB230_236.out _; (with_reducible repeat (first | refine blk_drewN ?_ _ | refine blk_drew ?_ | refine blk_alloc ?_ _)); exact BK230.out) hb); have n2_ := Aside0.mk (blk_below (g := gb236) (o := .cells #[.int .i64 t231, .int .i64 t232, .bool t233, .string t234] 26 (0, 0)) (by (with_reducible repeat (first | refine blk_drewN ?_ _ | refine blk_drew ?_ | refine blk_alloc ?_ _)); refine blk_put (cs := #[.int .i64 t231, .int .i64 t232, .bool t233, .string (⟨#[]⟩ : ByteArray)]) ?_ 3 _ rfl; (with_reducible repeat (first | refine blk_drewN ?_ _ | refine blk_drew ?_ | refine blk_alloc ?_ _)); refine blk_put (cs := #[.int .i64 t231, .int .i64 t232, .bool false, .string (⟨#[]⟩ : ByteArray)]) ?_ 2 _ rfl; (with_reducible repeat (first | refine blk_drewN ?_ _ | refine blk_drew ?_ | refine blk_alloc ?_ _)); refine blk_put (cs := #[.int .i64 t231, .int .i64 0, .bool false, .string (⟨#[]⟩ : ByteArray)]) ?_ 1 _ rfl; (with_reducible repeat (first | refine blk_drewN ?_ _ | refine blk_drew ?_ | refine blk_alloc ?_ _)); refine blk_put (cs := #[.int .i64 0, .int .i64 0, .bool false, .string (⟨#[]⟩ : ByteArray)]) ?_ 0 _ rfl; (with_reducible repeat (first | refine blk_drewN ?_ _ | refine blk_drew ?_ | refine blk_alloc ?_ _)); exact BK236.out) hb); have n3_ := Aside0.mk (below_step (by repeat (first | (with_reducible first | exact HB.out | apply below_alloc | apply pw_below_drewN | apply below_drew1 | refine below_set ?_ GE224.out | refine below_set ?_ GE230.out | refine below_set ?_ GE236.out) | exact HB.out)) hb); clear BK224; clear BK230; clear BK236; clear HB; have BK224 := n0_; have BK230 := n1_; have BK236 := n2_; have HB := n3_; clear n0_ n1_ n2_ n3_; have hcy5_224_0 := (show World.cell? _ ⟨gb224, 0, none⟩ = some (.int .u32 a0_0) from (blk_cell BK224.out 0).trans rfl); have hcy5_224_1 := (show World.cell? _ ⟨gb224, 1, none⟩ = some (.int .u32 a0_1) from (blk_cell BK224.out 1).trans rfl); (try clear hb); (try clear hb2); (try clear hk); (try clear hi); have hcz25_0 : w24.cell? ⟨gb230, 0, none⟩ = some (.int .i64 t225) := (blk_cell BK230.out 0).trans rfl; have hcz25_1 : w24.cell? ⟨gb230, 1, none⟩ = some (.int .i64 t226) := (blk_cell BK230.out 1).trans rfl; have hcz25_2 : w24.cell? ⟨gb230, 2, none⟩ = some (.bool t227) := (blk_cell BK230.out 2).trans rfl; have hcz25_3 : w24.cell? ⟨gb230, 3, none⟩ = some (.string t228) := (blk_cell BK230.out 3).trans rfl; have hfz25_0 := blk_frozen BK230.out 0; have hfz25_1 := blk_frozen BK230.out 1; have hfz25_2 := blk_frozen BK230.out 2; have hfz25_3 := blk_frozen BK230.out 3; have hcz26_0 : w24.cell? ⟨gb236, 0, none⟩ = some (.int .i64 t231) := (blk_cell BK236.out 0).trans rfl; have hcz26_1 : w24.cell? ⟨gb236, 1, none⟩ = some (.int .i64 t232) := (blk_cell BK236.out 1).trans rfl; have hcz26_2 : w24.cell? ⟨gb236, 2, none⟩ = some (.bool t233) := (blk_cell BK236.out 2).trans rfl; have hcz26_3 : w24.cell? ⟨gb236, 3, none⟩ = some (.string t234) := (blk_cell BK236.out 3).trans rfl; have hfz26_0 := blk_frozen BK236.out 0; have hfz26_1 := blk_frozen BK236.out 1; have hfz26_2 := blk_frozen BK236.out 2; have hfz26_3 := blk_frozen BK236.out 3))
          go_ret
          exact ⟨by first | rfl | (simp [errW_none, errW_some] <;> rfl) | (simp [*, errW_none, errW_some] <;> rfl) | (simp [*, IntKind.wrap_u32]; done) | (simp_all [IntKind.wrap_u32]; done), by repeat (first | (with_reducible first | exact HB.out | apply below_alloc | apply pw_below_drewN | apply below_drew1 | refine below_set ?_ GE224.out | refine below_set ?_ GE230.out | refine below_set ?_ GE236.out) | exact HB.out)⟩
        · rw [if_neg c12] at H
          exact absurd H (by simp)
      · replace c11 := Bool.eq_false_iff.mpr c11
        subst c11
        have H1 : (none) = some r := by rw [if_neg (show ¬ (false = true) by decide)] at H; exact H
        clear H
        have H := H1
        clear H1
        exact absurd H (by simp)

end Go.Proofs.YtppaikjbafobbaaDoor.P
