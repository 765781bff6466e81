-- Written by wip/hprint.py (this session's program) through the kit's print program; hand contracts are marked 'by hand'.
import Derived.Test.YtjlikmonnnbnaaaDoorPx0
import Derived.Test.YtjlikmonnnbnaaaDoorPx20
namespace Go.Proofs.YtjlikmonnnbnaaaDoor.P
open Go.RowKit Go.Proofs.YtjlikmonnnbnaaaDoorW.PrintWords Go.Proofs.YtjlikmonnnbnaaaDoorW.PrintLast Go.Proofs.YtjlikmonnnbnaaaDoorW.PrintMore
attribute [local go_sem] max2_int min2_int max_two min_two max_three min_three max_four min_four   -- for this text's walks alone
set_option linter.unusedVariables false
set_option linter.unusedSimpArgs false

/-! ### ether_Check: function 27 -/
mutual
def ether_Check.j0 : Nat → Bool → Int → Int → Bool → Int → Bool → Int → Int → ByteArray → Option (Int)
  | 0, _, _, _, _, _, _, _, _, _ => none
  | k + 1, x3, x263000, x263001, x263002, x263003, x263004, x263005, x263006, x263007 => if x263000 ≥ 281474976710656 then (ether_Check.j1 k true x263000 x263001 x263002 x263003 x263004 x263005 x263006 x263007) else (if x263001 ≥ 281474976710656 then (ether_Check.j1 k true x263000 x263001 x263002 x263003 x263004 x263005 x263006 x263007) else ((ether_tag.f x263002 x263003 x263004 x263005).bind fun t263 => (if t263 = true then (if x263006 = 0 then (ether_Check.j1 k false x263000 x263001 x263002 x263003 x263004 x263005 x263006 x263007) else (ether_Check.j1 k (!x3) x263000 x263001 x263002 x263003 x263004 x263005 x263006 x263007)) else (ether_Check.j1 k true x263000 x263001 x263002 x263003 x263004 x263005 x263006 x263007))))
def ether_Check.j1 : Nat → Bool → Int → Int → Bool → Int → Bool → Int → Int → ByteArray → Option (Int)
  | 0, _, _, _, _, _, _, _, _, _ => none
  | k + 1, x17, x263000, x263001, x263002, x263003, x263004, x263005, x263006, x263007 => if x17 = true then (some 41) else (if x263006 = 0 then (ether_Check.j2 k (decide ((x263007.size : Int) > 1500)) x263000 x263001 x263002 x263003 x263004 x263005 x263006 x263007) else (ether_Check.j2 k false x263000 x263001 x263002 x263003 x263004 x263005 x263006 x263007))
def ether_Check.j2 : Nat → Bool → Int → Int → Bool → Int → Bool → Int → Int → ByteArray → Option (Int)
  | 0, _, _, _, _, _, _, _, _, _ => none
  | k + 1, x41, x263000, x263001, x263002, x263003, x263004, x263005, x263006, x263007 => if x41 = true then (some 40) else ((ether_size.f x263000 x263001 x263002 x263003 x263004 x263005 x263006 x263007).bind fun t264 => (if t264 > 1600 then (some 41) else (some 0)))
end
def ether_Check.f (k : Nat) (a0_0 : Int) (a0_1 : Int) (a0_2 : Bool) (a0_3 : Int) (a0_4 : Bool) (a0_5 : Int) (a0_6 : Int) (a0_7 : ByteArray) : Option (Int) := if a0_6 ≥ 1536 then (if a0_6 ≤ 65535 then (ether_Check.j0 k (a0_6 != 33024) a0_0 a0_1 a0_2 a0_3 a0_4 a0_5 a0_6 a0_7) else (ether_Check.j0 k false a0_0 a0_1 a0_2 a0_3 a0_4 a0_5 a0_6 a0_7)) else (ether_Check.j0 k false a0_0 a0_1 a0_2 a0_3 a0_4 a0_5 a0_6 a0_7)
theorem ether_Check.mono_l : ∀ k, (∀ y0 y1 y2 y3 y4 y5 y6 y7 y8, LeO (ether_Check.j0 k y0 y1 y2 y3 y4 y5 y6 y7 y8) (ether_Check.j0 (k + 1) y0 y1 y2 y3 y4 y5 y6 y7 y8)) ∧ (∀ y0 y1 y2 y3 y4 y5 y6 y7 y8, LeO (ether_Check.j1 k y0 y1 y2 y3 y4 y5 y6 y7 y8) (ether_Check.j1 (k + 1) y0 y1 y2 y3 y4 y5 y6 y7 y8)) ∧ (∀ y0 y1 y2 y3 y4 y5 y6 y7 y8, LeO (ether_Check.j2 k y0 y1 y2 y3 y4 y5 y6 y7 y8) (ether_Check.j2 (k + 1) y0 y1 y2 y3 y4 y5 y6 y7 y8))
  | 0 => ⟨fun _ _ _ _ _ _ _ _ _ r h => by simp [ether_Check.j0] at h, fun _ _ _ _ _ _ _ _ _ r h => by simp [ether_Check.j1] at h, fun _ _ _ _ _ _ _ _ _ r h => by simp [ether_Check.j2] at h⟩
  | k + 1 => by
    obtain ⟨ih0, ih1, ih2⟩ := ether_Check.mono_l k
    refine ⟨?_, ?_, ?_⟩
    · intro y0 y1 y2 y3 y4 y5 y6 y7 y8
      unfold ether_Check.j0
      repeat' first
      | (with_reducible exact ih0 _ _ _ _ _ _ _ _ _)
      | (with_reducible exact ih1 _ _ _ _ _ _ _ _ _)
      | (with_reducible exact ih2 _ _ _ _ _ _ _ _ _)
      | (with_reducible exact LeO.refl _)
      | (with_reducible exact LeO.none _)
      | (with_reducible refine LeO.ite ?_ ?_)
      | (with_reducible refine LeO.bind ?_ (fun _ => ?_))
      | exact ih0 _ _ _ _ _ _ _ _ _
      | exact ih1 _ _ _ _ _ _ _ _ _
      | exact ih2 _ _ _ _ _ _ _ _ _
      | exact LeO.none _
      | refine LeO.ite ?_ ?_
      | refine LeO.bind ?_ (fun _ => ?_)
    · intro y0 y1 y2 y3 y4 y5 y6 y7 y8
      unfold ether_Check.j1
      repeat' first
      | (with_reducible exact ih0 _ _ _ _ _ _ _ _ _)
      | (with_reducible exact ih1 _ _ _ _ _ _ _ _ _)
      | (with_reducible exact ih2 _ _ _ _ _ _ _ _ _)
      | (with_reducible exact LeO.refl _)
      | (with_reducible exact LeO.none _)
      | (with_reducible refine LeO.ite ?_ ?_)
      | (with_reducible refine LeO.bind ?_ (fun _ => ?_))
      | exact ih0 _ _ _ _ _ _ _ _ _
      | exact ih1 _ _ _ _ _ _ _ _ _
      | exact ih2 _ _ _ _ _ _ _ _ _
      | exact LeO.none _
      | refine LeO.ite ?_ ?_
      | refine LeO.bind ?_ (fun _ => ?_)
    · intro y0 y1 y2 y3 y4 y5 y6 y7 y8
      unfold ether_Check.j2
      repeat' first
      | (with_reducible exact ih0 _ _ _ _ _ _ _ _ _)
      | (with_reducible exact ih1 _ _ _ _ _ _ _ _ _)
      | (with_reducible exact ih2 _ _ _ _ _ _ _ _ _)
      | (with_reducible exact LeO.refl _)
      | (with_reducible exact LeO.none _)
      | (with_reducible refine LeO.ite ?_ ?_)
      | (with_reducible refine LeO.bind ?_ (fun _ => ?_))
      | exact ih0 _ _ _ _ _ _ _ _ _
      | exact ih1 _ _ _ _ _ _ _ _ _
      | exact ih2 _ _ _ _ _ _ _ _ _
      | exact LeO.none _
      | refine LeO.ite ?_ ?_
      | refine LeO.bind ?_ (fun _ => ?_)
theorem ether_Check.mono : ∀ a0 a1 a2 a3 a4 a5 a6 a7 k, LeO (ether_Check.f k a0 a1 a2 a3 a4 a5 a6 a7) (ether_Check.f (k + 1) a0 a1 a2 a3 a4 a5 a6 a7) := by
  intro a0 a1 a2 a3 a4 a5 a6 a7 k
  obtain ⟨ih0, ih1, ih2⟩ := ether_Check.mono_l k
  unfold ether_Check.f
  repeat' first
      | (with_reducible exact ih0 _ _ _ _ _ _ _ _ _)
      | (with_reducible exact ih1 _ _ _ _ _ _ _ _ _)
      | (with_reducible exact ih2 _ _ _ _ _ _ _ _ _)
      | (with_reducible exact LeO.refl _)
      | (with_reducible exact LeO.none _)
      | (with_reducible refine LeO.ite ?_ ?_)
      | (with_reducible refine LeO.bind ?_ (fun _ => ?_))
      | exact ih0 _ _ _ _ _ _ _ _ _
      | exact ih1 _ _ _ _ _ _ _ _ _
      | exact ih2 _ _ _ _ _ _ _ _ _
      | exact LeO.none _
      | refine LeO.ite ?_ ?_
      | refine LeO.bind ?_ (fun _ => ?_)
set_option maxHeartbeats 8000000 in
set_option maxRecDepth 100000 in
theorem ether_Check.calls (k : Nat) (a0_0 : Int) (a0_1 : Int) (a0_2 : Bool) (a0_3 : Int) (a0_4 : Bool) (a0_5 : Int) (a0_6 : Int) (a0_7 : ByteArray) (r : Int) (w : World) (h : ether_Check.f k a0_0 a0_1 a0_2 a0_3 a0_4 a0_5 a0_6 a0_7 = some r) :
    Calls Tryd.prog 27 #[.agg #[.int .u64 a0_0, .int .u64 a0_1, .bool a0_2, .int .i64 a0_3, .bool a0_4, .int .i64 a0_5, .int .i64 a0_6, .string a0_7]] w fun e w' => e = .returned (.int .i64 r) ∧ Below w.heap.size w w' := by
  have hu40 := Tryd.underlying40
  have hu38 := Tryd.underlying38
  have HB := Aside0.mk (Below.refl w.heap.size w)
  have H : (if a0_6 ≥ 1536 then (if a0_6 ≤ 65535 then (ether_Check.j0 k (a0_6 != 33024) a0_0 a0_1 a0_2 a0_3 a0_4 a0_5 a0_6 a0_7) else (ether_Check.j0 k false a0_0 a0_1 a0_2 a0_3 a0_4 a0_5 a0_6 a0_7)) else (ether_Check.j0 k false a0_0 a0_1 a0_2 a0_3 a0_4 a0_5 a0_6 a0_7)) = some r := h
  clear h
  have HC2 := Aside0.mk H
  clear H
  go_enter Tryd.func27, Tryd.ntmps27
  go_upto_region 1 with (first | ((with_reducible refine gate_dst (N := 1) rfl ?_); (try (refine gate_guard (by rfl) ?_; dsimp only)); refine box_event ?hg (N := 1) ?hd (cs := #[.int .u64 a0_0, .int .u64 a0_1, .bool a0_2, .int .i64 a0_3, .bool a0_4, .int .i64 a0_5, .int .i64 a0_6, .string a0_7]) (t := 40) ?hr ?_; (case hd => rfl); (case hg => rfl); (case hr => first | (go_simp; done) | (go_simp; rfl)); intro gb262 hg w3 hbox hb; have n0_ := Aside0.mk (below_step (by repeat (first | (with_reducible first | exact HB.out | apply below_alloc | apply pw_below_drewN | apply below_drew1) | exact HB.out)) hb); have n1_ := Aside0.mk (hbox); have n2_ := Aside0.mk ((by rw [hg]; exact (below_size (by repeat (first | (with_reducible first | exact HB.out | apply below_alloc | apply pw_below_drewN | apply below_drew1) | exact HB.out))) : w.heap.size ≤ gb262)); have n3_ := Aside0.mk ((by rw [hg]; exact (below_size (by repeat (first | (with_reducible first | exact HB.out | apply below_alloc | apply pw_below_drewN | apply below_drew1) | exact HB.out))) : w.heap.size ≤ gb262)); clear HB; have HB := n0_; have BK262 := n1_; have GW262 := n2_; have GE262 := n3_; clear n0_ n1_ n2_ n3_; clear hb hbox hg))
  (try simp only [Act.put, List.setIfInBounds_toArray, List.set_cons_zero, List.set_cons_succ])
  go_cut [3] (fun v3 wc => ∃ (kq : Nat) (x3_1 : Bool), v3 = .bool x3_1 ∧ Aside0 (ether_Check.j0 kq x3_1 a0_0 a0_1 a0_2 a0_3 a0_4 a0_5 a0_6 a0_7 = some r) ∧ Aside0 (kq ≤ k) ∧ Aside0 (wc.heap[gb262]? = some (.cells #[.int .u64 a0_0, .int .u64 a0_1, .bool a0_2, .int .i64 a0_3, .bool a0_4, .int .i64 a0_5, .int .i64 a0_6, .string a0_7] 40 (0, 0))) ∧ Aside0 (Below w.heap.size w wc))
  case first =>
    have H := HC2.out
    clear HC2
    by_cases c4 : a0_6 ≥ 1536
    · rw [if_pos c4] at H
      have c4b0 : decide (1536 ≤ a0_6) = true := decide_eq_true c4
      clear c4
      (first | rw [c4b0] | (simp only [i64_w, i32_w]; rw [c4b0]) | skip)
      by_cases c5 : a0_6 ≤ 65535
      · rw [if_pos c5] at H
        have c5b0 : decide (a0_6 ≤ 65535) = true := decide_eq_true c5
        clear c5
        have H' := Aside0.mk H
        clear H
        have hcz6_0 : w3.cell? ⟨gb262, 0, none⟩ = some (.int .u64 a0_0) := (blk_cell BK262.out 0).trans rfl
        have hcz6_1 : w3.cell? ⟨gb262, 1, none⟩ = some (.int .u64 a0_1) := (blk_cell BK262.out 1).trans rfl
        have hcz6_2 : w3.cell? ⟨gb262, 2, none⟩ = some (.bool a0_2) := (blk_cell BK262.out 2).trans rfl
        have hcz6_3 : w3.cell? ⟨gb262, 3, none⟩ = some (.int .i64 a0_3) := (blk_cell BK262.out 3).trans rfl
        have hcz6_4 : w3.cell? ⟨gb262, 4, none⟩ = some (.bool a0_4) := (blk_cell BK262.out 4).trans rfl
        have hcz6_5 : w3.cell? ⟨gb262, 5, none⟩ = some (.int .i64 a0_5) := (blk_cell BK262.out 5).trans rfl
        have hcz6_6 : w3.cell? ⟨gb262, 6, none⟩ = some (.int .i64 a0_6) := (blk_cell BK262.out 6).trans rfl
        have hcz6_7 : w3.cell? ⟨gb262, 7, none⟩ = some (.string a0_7) := (blk_cell BK262.out 7).trans rfl
        have hfz6_0 := blk_frozen BK262.out 0
        have hfz6_1 := blk_frozen BK262.out 1
        have hfz6_2 := blk_frozen BK262.out 2
        have hfz6_3 := blk_frozen BK262.out 3
        have hfz6_4 := blk_frozen BK262.out 4
        have hfz6_5 := blk_frozen BK262.out 5
        have hfz6_6 := blk_frozen BK262.out 6
        have hfz6_7 := blk_frozen BK262.out 7
        go_wp2
        go_meet
        case rel => exact ⟨_, ((a0_6 != 33024)), (by first | rfl | (simp; done) | (simp [*]; done)), H', ⟨by first | omega | exact Nat.le_refl _⟩, ⟨by (with_reducible repeat (first | refine blk_drewN ?_ _ | refine blk_drew ?_ | refine blk_alloc ?_ _)); exact BK262.out⟩, ⟨by repeat (first | (with_reducible first | exact HB.out | apply below_alloc | apply pw_below_drewN | apply below_drew1 | refine below_set ?_ GE262.out) | exact HB.out)⟩⟩
      · rw [if_neg c5] at H
        have c5b0 : decide (a0_6 ≤ 65535) = false := decide_eq_false c5
        clear c5
        have H' := Aside0.mk H
        clear H
        have hcz7_0 : w3.cell? ⟨gb262, 0, none⟩ = some (.int .u64 a0_0) := (blk_cell BK262.out 0).trans rfl
        have hcz7_1 : w3.cell? ⟨gb262, 1, none⟩ = some (.int .u64 a0_1) := (blk_cell BK262.out 1).trans rfl
        have hcz7_2 : w3.cell? ⟨gb262, 2, none⟩ = some (.bool a0_2) := (blk_cell BK262.out 2).trans rfl
        have hcz7_3 : w3.cell? ⟨gb262, 3, none⟩ = some (.int .i64 a0_3) := (blk_cell BK262.out 3).trans rfl
        have hcz7_4 : w3.cell? ⟨gb262, 4, none⟩ = some (.bool a0_4) := (blk_cell BK262.out 4).trans rfl
        have hcz7_5 : w3.cell? ⟨gb262, 5, none⟩ = some (.int .i64 a0_5) := (blk_cell BK262.out 5).trans rfl
        have hcz7_6 : w3.cell? ⟨gb262, 6, none⟩ = some (.int .i64 a0_6) := (blk_cell BK262.out 6).trans rfl
        have hcz7_7 : w3.cell? ⟨gb262, 7, none⟩ = some (.string a0_7) := (blk_cell BK262.out 7).trans rfl
        have hfz7_0 := blk_frozen BK262.out 0
        have hfz7_1 := blk_frozen BK262.out 1
        have hfz7_2 := blk_frozen BK262.out 2
        have hfz7_3 := blk_frozen BK262.out 3
        have hfz7_4 := blk_frozen BK262.out 4
        have hfz7_5 := blk_frozen BK262.out 5
        have hfz7_6 := blk_frozen BK262.out 6
        have hfz7_7 := blk_frozen BK262.out 7
        go_wp2
        go_meet
        case rel => exact ⟨_, (false), (by first | rfl | (simp; done) | (simp [*]; done)), H', ⟨by first | omega | exact Nat.le_refl _⟩, ⟨by (with_reducible repeat (first | refine blk_drewN ?_ _ | refine blk_drew ?_ | refine blk_alloc ?_ _)); exact BK262.out⟩, ⟨by repeat (first | (with_reducible first | exact HB.out | apply below_alloc | apply pw_below_drewN | apply below_drew1 | refine below_set ?_ GE262.out) | exact HB.out)⟩⟩
    · rw [if_neg c4] at H
      have c4b0 : decide (1536 ≤ a0_6) = false := decide_eq_false c4
      clear c4
      (first | rw [c4b0] | (simp only [i64_w, i32_w]; rw [c4b0]) | skip)
      have H' := Aside0.mk H
      clear H
      have hcz8_0 : w3.cell? ⟨gb262, 0, none⟩ = some (.int .u64 a0_0) := (blk_cell BK262.out 0).trans rfl
      have hcz8_1 : w3.cell? ⟨gb262, 1, none⟩ = some (.int .u64 a0_1) := (blk_cell BK262.out 1).trans rfl
      have hcz8_2 : w3.cell? ⟨gb262, 2, none⟩ = some (.bool a0_2) := (blk_cell BK262.out 2).trans rfl
      have hcz8_3 : w3.cell? ⟨gb262, 3, none⟩ = some (.int .i64 a0_3) := (blk_cell BK262.out 3).trans rfl
      have hcz8_4 : w3.cell? ⟨gb262, 4, none⟩ = some (.bool a0_4) := (blk_cell BK262.out 4).trans rfl
      have hcz8_5 : w3.cell? ⟨gb262, 5, none⟩ = some (.int .i64 a0_5) := (blk_cell BK262.out 5).trans rfl
      have hcz8_6 : w3.cell? ⟨gb262, 6, none⟩ = some (.int .i64 a0_6) := (blk_cell BK262.out 6).trans rfl
      have hcz8_7 : w3.cell? ⟨gb262, 7, none⟩ = some (.string a0_7) := (blk_cell BK262.out 7).trans rfl
      have hfz8_0 := blk_frozen BK262.out 0
      have hfz8_1 := blk_frozen BK262.out 1
      have hfz8_2 := blk_frozen BK262.out 2
      have hfz8_3 := blk_frozen BK262.out 3
      have hfz8_4 := blk_frozen BK262.out 4
      have hfz8_5 := blk_frozen BK262.out 5
      have hfz8_6 := blk_frozen BK262.out 6
      have hfz8_7 := blk_frozen BK262.out 7
      go_wp2
      go_meet
      case rel => exact ⟨_, (false), (by first | rfl | (simp; done) | (simp [*]; done)), H', ⟨by first | omega | exact Nat.le_refl _⟩, ⟨by (with_reducible repeat (first | refine blk_drewN ?_ _ | refine blk_drew ?_ | refine blk_alloc ?_ _)); exact BK262.out⟩, ⟨by repeat (first | (with_reducible first | exact HB.out | apply below_alloc | apply pw_below_drewN | apply below_drew1 | refine below_set ?_ GE262.out) | exact HB.out)⟩⟩
  case rest =>
    clear HC2
    try clear c2
    try clear p2
    try clear c4
    try clear c4b0
    try clear c5
    try clear c5b0
    try clear hcz6_0
    try clear hcz6_1
    try clear hcz6_2
    try clear hcz6_3
    try clear hcz6_4
    try clear hcz6_5
    try clear hcz6_6
    try clear hcz6_7
    try clear hcz7_0
    try clear hcz7_1
    try clear hcz7_2
    try clear hcz7_3
    try clear hcz7_4
    try clear hcz7_5
    try clear hcz7_6
    try clear hcz7_7
    try clear hcz8_0
    try clear hcz8_1
    try clear hcz8_2
    try clear hcz8_3
    try clear hcz8_4
    try clear hcz8_5
    try clear hcz8_6
    try clear hcz8_7
    try clear hfz6_0
    try clear hfz6_1
    try clear hfz6_2
    try clear hfz6_3
    try clear hfz6_4
    try clear hfz6_5
    try clear hfz6_6
    try clear hfz6_7
    try clear hfz7_0
    try clear hfz7_1
    try clear hfz7_2
    try clear hfz7_3
    try clear hfz7_4
    try clear hfz7_5
    try clear hfz7_6
    try clear hfz7_7
    try clear hfz8_0
    try clear hfz8_1
    try clear hfz8_2
    try clear hfz8_3
    try clear hfz8_4
    try clear hfz8_5
    try clear hfz8_6
    try clear hfz8_7
    obtain ⟨kq, x3_1, rfl, HA, HJ1, BK262, HB⟩ := hcut
    cases kq with
    | zero => exact absurd HA.out (by simp [ether_Check.j0])
    | succ kj1 =>
      have H := HA.out
      clear HA
      simp only [ether_Check.j0] at H
      have HC9 := Aside0.mk H
      clear H
      go_upto_region 2 with (fail)
      go_cut [17] (fun v17 wc => ∃ (kq : Nat) (x17_8 : Bool), v17 = .bool x17_8 ∧ Aside0 (ether_Check.j1 kq x17_8 a0_0 a0_1 a0_2 a0_3 a0_4 a0_5 a0_6 a0_7 = some r) ∧ Aside0 (kq ≤ kj1) ∧ Aside0 (wc.heap[gb262]? = some (.cells #[.int .u64 a0_0, .int .u64 a0_1, .bool a0_2, .int .i64 a0_3, .bool a0_4, .int .i64 a0_5, .int .i64 a0_6, .string a0_7] 40 (0, 0))) ∧ Aside0 (Below w.heap.size w wc))
      case first =>
        have H := HC9.out
        clear HC9
        by_cases c10 : a0_0 ≥ 281474976710656
        · rw [if_pos c10] at H
          have c10b0 : decide (281474976710656 ≤ a0_0) = true := decide_eq_true c10
          clear c10
          (first | rw [c10b0] | (simp only [i64_w, i32_w]; rw [c10b0]) | skip)
          have H' := Aside0.mk H
          clear H
          have hcz11_0 : wc.cell? ⟨gb262, 0, none⟩ = some (.int .u64 a0_0) := (blk_cell BK262.out 0).trans rfl
          have hcz11_1 : wc.cell? ⟨gb262, 1, none⟩ = some (.int .u64 a0_1) := (blk_cell BK262.out 1).trans rfl
          have hcz11_2 : wc.cell? ⟨gb262, 2, none⟩ = some (.bool a0_2) := (blk_cell BK262.out 2).trans rfl
          have hcz11_3 : wc.cell? ⟨gb262, 3, none⟩ = some (.int .i64 a0_3) := (blk_cell BK262.out 3).trans rfl
          have hcz11_4 : wc.cell? ⟨gb262, 4, none⟩ = some (.bool a0_4) := (blk_cell BK262.out 4).trans rfl
          have hcz11_5 : wc.cell? ⟨gb262, 5, none⟩ = some (.int .i64 a0_5) := (blk_cell BK262.out 5).trans rfl
          have hcz11_6 : wc.cell? ⟨gb262, 6, none⟩ = some (.int .i64 a0_6) := (blk_cell BK262.out 6).trans rfl
          have hcz11_7 : wc.cell? ⟨gb262, 7, none⟩ = some (.string a0_7) := (blk_cell BK262.out 7).trans rfl
          have hfz11_0 := blk_frozen BK262.out 0
          have hfz11_1 := blk_frozen BK262.out 1
          have hfz11_2 := blk_frozen BK262.out 2
          have hfz11_3 := blk_frozen BK262.out 3
          have hfz11_4 := blk_frozen BK262.out 4
          have hfz11_5 := blk_frozen BK262.out 5
          have hfz11_6 := blk_frozen BK262.out 6
          have hfz11_7 := blk_frozen BK262.out 7
          go_wp2
          go_meet
          case rel => exact ⟨_, (true), (by first | rfl | (simp; done) | (simp [*]; done)), H', ⟨by have := HJ1.out; first | omega | exact Nat.le_refl _⟩, ⟨by (with_reducible repeat (first | refine blk_drewN ?_ _ | refine blk_drew ?_ | refine blk_alloc ?_ _)); exact BK262.out⟩, ⟨by repeat (first | (with_reducible first | exact HB.out | apply below_alloc | apply pw_below_drewN | apply below_drew1 | refine below_set ?_ GE262.out) | exact HB.out)⟩⟩
        · rw [if_neg c10] at H
          have c10b0 : decide (281474976710656 ≤ a0_0) = false := decide_eq_false c10
          clear c10
          (first | rw [c10b0] | (simp only [i64_w, i32_w]; rw [c10b0]) | skip)
          by_cases c12 : a0_1 ≥ 281474976710656
          · rw [if_pos c12] at H
            have c12b0 : decide (281474976710656 ≤ a0_1) = true := decide_eq_true c12
            clear c12
            have H' := Aside0.mk H
            clear H
            have hcz13_0 : wc.cell? ⟨gb262, 0, none⟩ = some (.int .u64 a0_0) := (blk_cell BK262.out 0).trans rfl
            have hcz13_1 : wc.cell? ⟨gb262, 1, none⟩ = some (.int .u64 a0_1) := (blk_cell BK262.out 1).trans rfl
            have hcz13_2 : wc.cell? ⟨gb262, 2, none⟩ = some (.bool a0_2) := (blk_cell BK262.out 2).trans rfl
            have hcz13_3 : wc.cell? ⟨gb262, 3, none⟩ = some (.int .i64 a0_3) := (blk_cell BK262.out 3).trans rfl
            have hcz13_4 : wc.cell? ⟨gb262, 4, none⟩ = some (.bool a0_4) := (blk_cell BK262.out 4).trans rfl
            have hcz13_5 : wc.cell? ⟨gb262, 5, none⟩ = some (.int .i64 a0_5) := (blk_cell BK262.out 5).trans rfl
            have hcz13_6 : wc.cell? ⟨gb262, 6, none⟩ = some (.int .i64 a0_6) := (blk_cell BK262.out 6).trans rfl
            have hcz13_7 : wc.cell? ⟨gb262, 7, none⟩ = some (.string a0_7) := (blk_cell BK262.out 7).trans rfl
            have hfz13_0 := blk_frozen BK262.out 0
            have hfz13_1 := blk_frozen BK262.out 1
            have hfz13_2 := blk_frozen BK262.out 2
            have hfz13_3 := blk_frozen BK262.out 3
            have hfz13_4 := blk_frozen BK262.out 4
            have hfz13_5 := blk_frozen BK262.out 5
            have hfz13_6 := blk_frozen BK262.out 6
            have hfz13_7 := blk_frozen BK262.out 7
            go_wp2
            go_meet
            case rel => exact ⟨_, (true), (by first | rfl | (simp; done) | (simp [*]; done)), H', ⟨by have := HJ1.out; first | omega | exact Nat.le_refl _⟩, ⟨by (with_reducible repeat (first | refine blk_drewN ?_ _ | refine blk_drew ?_ | refine blk_alloc ?_ _)); exact BK262.out⟩, ⟨by repeat (first | (with_reducible first | exact HB.out | apply below_alloc | apply pw_below_drewN | apply below_drew1 | refine below_set ?_ GE262.out) | exact HB.out)⟩⟩
          · rw [if_neg c12] at H
            have c12b0 : decide (281474976710656 ≤ a0_1) = false := decide_eq_false c12
            clear c12
            replace H := Option.bind_eq_some_iff.mp H
            obtain ⟨t263, A140, H⟩ := H
            replace H : (if t263 = true then (if a0_6 = 0 then (ether_Check.j1 kj1 false a0_0 a0_1 a0_2 a0_3 a0_4 a0_5 a0_6 a0_7) else (ether_Check.j1 kj1 (!x3_1) a0_0 a0_1 a0_2 a0_3 a0_4 a0_5 a0_6 a0_7)) else (ether_Check.j1 kj1 true a0_0 a0_1 a0_2 a0_3 a0_4 a0_5 a0_6 a0_7)) = some r := H
            have A14 := Aside0.mk A140
            clear A140
            by_cases c15 : t263 = true
            · subst c15
              have H1 : (if a0_6 = 0 then (ether_Check.j1 kj1 false a0_0 a0_1 a0_2 a0_3 a0_4 a0_5 a0_6 a0_7) else (ether_Check.j1 kj1 (!x3_1) a0_0 a0_1 a0_2 a0_3 a0_4 a0_5 a0_6 a0_7)) = some r := by rw [if_pos rfl] at H; exact H
              clear H
              have H := H1
              clear H1
              by_cases c16 : a0_6 = 0
              · rw [if_pos c16] at H
                have c16b0 : (a0_6 == 0) = true := beq_iff_eq.mpr c16
                have c16b1 : (a0_6 != 0) = false := bne_eq_false_iff_eq.mpr c16
                clear c16
                have H' := Aside0.mk H
                clear H
                have hcz17_0 : wc.cell? ⟨gb262, 0, none⟩ = some (.int .u64 a0_0) := (blk_cell BK262.out 0).trans rfl
                have hcz17_1 : wc.cell? ⟨gb262, 1, none⟩ = some (.int .u64 a0_1) := (blk_cell BK262.out 1).trans rfl
                have hcz17_2 : wc.cell? ⟨gb262, 2, none⟩ = some (.bool a0_2) := (blk_cell BK262.out 2).trans rfl
                have hcz17_3 : wc.cell? ⟨gb262, 3, none⟩ = some (.int .i64 a0_3) := (blk_cell BK262.out 3).trans rfl
                have hcz17_4 : wc.cell? ⟨gb262, 4, none⟩ = some (.bool a0_4) := (blk_cell BK262.out 4).trans rfl
                have hcz17_5 : wc.cell? ⟨gb262, 5, none⟩ = some (.int .i64 a0_5) := (blk_cell BK262.out 5).trans rfl
                have hcz17_6 : wc.cell? ⟨gb262, 6, none⟩ = some (.int .i64 a0_6) := (blk_cell BK262.out 6).trans rfl
                have hcz17_7 : wc.cell? ⟨gb262, 7, none⟩ = some (.string a0_7) := (blk_cell BK262.out 7).trans rfl
                have hfz17_0 := blk_frozen BK262.out 0
                have hfz17_1 := blk_frozen BK262.out 1
                have hfz17_2 := blk_frozen BK262.out 2
                have hfz17_3 := blk_frozen BK262.out 3
                have hfz17_4 := blk_frozen BK262.out 4
                have hfz17_5 := blk_frozen BK262.out 5
                have hfz17_6 := blk_frozen BK262.out 6
                have hfz17_7 := blk_frozen BK262.out 7
                go_wp2_with (first | (go_at_call 36; (with_reducible refine (ether_tag.calls a0_2 a0_3 a0_4 a0_5 true _ A14.out).mono ?_); rintro e w18 ⟨rfl, hb⟩; have n0_ := Aside0.mk (blk_below (g := gb262) (o := .cells #[.int .u64 a0_0, .int .u64 a0_1, .bool a0_2, .int .i64 a0_3, .bool a0_4, .int .i64 a0_5, .int .i64 a0_6, .string a0_7] 40 (0, 0)) (by (with_reducible repeat (first | refine blk_drewN ?_ _ | refine blk_drew ?_ | refine blk_alloc ?_ _)); exact BK262.out) hb); have n1_ := Aside0.mk (below_step (by repeat (first | (with_reducible first | exact HB.out | apply below_alloc | apply pw_below_drewN | apply below_drew1 | refine below_set ?_ GE262.out) | exact HB.out)) hb); clear BK262; clear HB; have BK262 := n0_; have HB := n1_; clear n0_ n1_; have hcy1_262_0 := (show World.cell? _ ⟨gb262, 0, none⟩ = some (.int .u64 a0_0) from (blk_cell BK262.out 0).trans rfl); have hcy1_262_1 := (show World.cell? _ ⟨gb262, 1, none⟩ = some (.int .u64 a0_1) from (blk_cell BK262.out 1).trans rfl); have hcy1_262_2 := (show World.cell? _ ⟨gb262, 2, none⟩ = some (.bool a0_2) from (blk_cell BK262.out 2).trans rfl); have hcy1_262_3 := (show World.cell? _ ⟨gb262, 3, none⟩ = some (.int .i64 a0_3) from (blk_cell BK262.out 3).trans rfl); have hcy1_262_4 := (show World.cell? _ ⟨gb262, 4, none⟩ = some (.bool a0_4) from (blk_cell BK262.out 4).trans rfl); have hcy1_262_5 := (show World.cell? _ ⟨gb262, 5, none⟩ = some (.int .i64 a0_5) from (blk_cell BK262.out 5).trans rfl); have hcy1_262_6 := (show World.cell? _ ⟨gb262, 6, none⟩ = some (.int .i64 a0_6) from (blk_cell BK262.out 6).trans rfl); have hcy1_262_7 := (show World.cell? _ ⟨gb262, 7, none⟩ = some (.string a0_7) from (blk_cell BK262.out 7).trans rfl); (try clear hb); (try clear hb2); (try clear hk); (try clear hi); have hcz19_0 : w18.cell? ⟨gb262, 0, none⟩ = some (.int .u64 a0_0) := (blk_cell BK262.out 0).trans rfl; have hcz19_1 : w18.cell? ⟨gb262, 1, none⟩ = some (.int .u64 a0_1) := (blk_cell BK262.out 1).trans rfl; have hcz19_2 : w18.cell? ⟨gb262, 2, none⟩ = some (.bool a0_2) := (blk_cell BK262.out 2).trans rfl; have hcz19_3 : w18.cell? ⟨gb262, 3, none⟩ = some (.int .i64 a0_3) := (blk_cell BK262.out 3).trans rfl; have hcz19_4 : w18.cell? ⟨gb262, 4, none⟩ = some (.bool a0_4) := (blk_cell BK262.out 4).trans rfl; have hcz19_5 : w18.cell? ⟨gb262, 5, none⟩ = some (.int .i64 a0_5) := (blk_cell BK262.out 5).trans rfl; have hcz19_6 : w18.cell? ⟨gb262, 6, none⟩ = some (.int .i64 a0_6) := (blk_cell BK262.out 6).trans rfl; have hcz19_7 : w18.cell? ⟨gb262, 7, none⟩ = some (.string a0_7) := (blk_cell BK262.out 7).trans rfl; have hfz19_0 := blk_frozen BK262.out 0; have hfz19_1 := blk_frozen BK262.out 1; have hfz19_2 := blk_frozen BK262.out 2; have hfz19_3 := blk_frozen BK262.out 3; have hfz19_4 := blk_frozen BK262.out 4; have hfz19_5 := blk_frozen BK262.out 5; have hfz19_6 := blk_frozen BK262.out 6; have hfz19_7 := blk_frozen BK262.out 7))
                go_meet
                case rel => exact ⟨_, (false), (by first | rfl | (simp; done) | (simp [*]; done)), H', ⟨by have := HJ1.out; first | omega | exact Nat.le_refl _⟩, ⟨by (with_reducible repeat (first | refine blk_drewN ?_ _ | refine blk_drew ?_ | refine blk_alloc ?_ _)); exact BK262.out⟩, ⟨by repeat (first | (with_reducible first | exact HB.out | apply below_alloc | apply pw_below_drewN | apply below_drew1 | refine below_set ?_ GE262.out) | exact HB.out)⟩⟩
              · rw [if_neg c16] at H
                have c16b0 : (a0_6 == 0) = false := beq_eq_false_iff_ne.mpr c16
                have c16b1 : (a0_6 != 0) = true := bne_iff_ne.mpr c16
                have H' := Aside0.mk H
                clear H
                have hcz20_0 : wc.cell? ⟨gb262, 0, none⟩ = some (.int .u64 a0_0) := (blk_cell BK262.out 0).trans rfl
                have hcz20_1 : wc.cell? ⟨gb262, 1, none⟩ = some (.int .u64 a0_1) := (blk_cell BK262.out 1).trans rfl
                have hcz20_2 : wc.cell? ⟨gb262, 2, none⟩ = some (.bool a0_2) := (blk_cell BK262.out 2).trans rfl
                have hcz20_3 : wc.cell? ⟨gb262, 3, none⟩ = some (.int .i64 a0_3) := (blk_cell BK262.out 3).trans rfl
                have hcz20_4 : wc.cell? ⟨gb262, 4, none⟩ = some (.bool a0_4) := (blk_cell BK262.out 4).trans rfl
                have hcz20_5 : wc.cell? ⟨gb262, 5, none⟩ = some (.int .i64 a0_5) := (blk_cell BK262.out 5).trans rfl
                have hcz20_6 : wc.cell? ⟨gb262, 6, none⟩ = some (.int .i64 a0_6) := (blk_cell BK262.out 6).trans rfl
                have hcz20_7 : wc.cell? ⟨gb262, 7, none⟩ = some (.string a0_7) := (blk_cell BK262.out 7).trans rfl
                have hfz20_0 := blk_frozen BK262.out 0
                have hfz20_1 := blk_frozen BK262.out 1
                have hfz20_2 := blk_frozen BK262.out 2
                have hfz20_3 := blk_frozen BK262.out 3
                have hfz20_4 := blk_frozen BK262.out 4
                have hfz20_5 := blk_frozen BK262.out 5
                have hfz20_6 := blk_frozen BK262.out 6
                have hfz20_7 := blk_frozen BK262.out 7
                go_wp2_with (first | (go_at_call 36; (with_reducible refine (ether_tag.calls a0_2 a0_3 a0_4 a0_5 true _ A14.out).mono ?_); rintro e w21 ⟨rfl, hb⟩; have n0_ := Aside0.mk (blk_below (g := gb262) (o := .cells #[.int .u64 a0_0, .int .u64 a0_1, .bool a0_2, .int .i64 a0_3, .bool a0_4, .int .i64 a0_5, .int .i64 a0_6, .string a0_7] 40 (0, 0)) (by (with_reducible repeat (first | refine blk_drewN ?_ _ | refine blk_drew ?_ | refine blk_alloc ?_ _)); exact BK262.out) hb); have n1_ := Aside0.mk (below_step (by repeat (first | (with_reducible first | exact HB.out | apply below_alloc | apply pw_below_drewN | apply below_drew1 | refine below_set ?_ GE262.out) | exact HB.out)) hb); clear BK262; clear HB; have BK262 := n0_; have HB := n1_; clear n0_ n1_; have hcy1_262_0 := (show World.cell? _ ⟨gb262, 0, none⟩ = some (.int .u64 a0_0) from (blk_cell BK262.out 0).trans rfl); have hcy1_262_1 := (show World.cell? _ ⟨gb262, 1, none⟩ = some (.int .u64 a0_1) from (blk_cell BK262.out 1).trans rfl); have hcy1_262_2 := (show World.cell? _ ⟨gb262, 2, none⟩ = some (.bool a0_2) from (blk_cell BK262.out 2).trans rfl); have hcy1_262_3 := (show World.cell? _ ⟨gb262, 3, none⟩ = some (.int .i64 a0_3) from (blk_cell BK262.out 3).trans rfl); have hcy1_262_4 := (show World.cell? _ ⟨gb262, 4, none⟩ = some (.bool a0_4) from (blk_cell BK262.out 4).trans rfl); have hcy1_262_5 := (show World.cell? _ ⟨gb262, 5, none⟩ = some (.int .i64 a0_5) from (blk_cell BK262.out 5).trans rfl); have hcy1_262_6 := (show World.cell? _ ⟨gb262, 6, none⟩ = some (.int .i64 a0_6) from (blk_cell BK262.out 6).trans rfl); have hcy1_262_7 := (show World.cell? _ ⟨gb262, 7, none⟩ = some (.string a0_7) from (blk_cell BK262.out 7).trans rfl); (try clear hb); (try clear hb2); (try clear hk); (try clear hi); have hcz22_0 : w21.cell? ⟨gb262, 0, none⟩ = some (.int .u64 a0_0) := (blk_cell BK262.out 0).trans rfl; have hcz22_1 : w21.cell? ⟨gb262, 1, none⟩ = some (.int .u64 a0_1) := (blk_cell BK262.out 1).trans rfl; have hcz22_2 : w21.cell? ⟨gb262, 2, none⟩ = some (.bool a0_2) := (blk_cell BK262.out 2).trans rfl; have hcz22_3 : w21.cell? ⟨gb262, 3, none⟩ = some (.int .i64 a0_3) := (blk_cell BK262.out 3).trans rfl; have hcz22_4 : w21.cell? ⟨gb262, 4, none⟩ = some (.bool a0_4) := (blk_cell BK262.out 4).trans rfl; have hcz22_5 : w21.cell? ⟨gb262, 5, none⟩ = some (.int .i64 a0_5) := (blk_cell BK262.out 5).trans rfl; have hcz22_6 : w21.cell? ⟨gb262, 6, none⟩ = some (.int .i64 a0_6) := (blk_cell BK262.out 6).trans rfl; have hcz22_7 : w21.cell? ⟨gb262, 7, none⟩ = some (.string a0_7) := (blk_cell BK262.out 7).trans rfl; have hfz22_0 := blk_frozen BK262.out 0; have hfz22_1 := blk_frozen BK262.out 1; have hfz22_2 := blk_frozen BK262.out 2; have hfz22_3 := blk_frozen BK262.out 3; have hfz22_4 := blk_frozen BK262.out 4; have hfz22_5 := blk_frozen BK262.out 5; have hfz22_6 := blk_frozen BK262.out 6; have hfz22_7 := blk_frozen BK262.out 7))
                go_meet
                case rel => exact ⟨_, (!x3_1), (by first | rfl | (simp; done) | (simp [*]; done)), H', ⟨by have := HJ1.out; first | omega | exact Nat.le_refl _⟩, ⟨by (with_reducible repeat (first | refine blk_drewN ?_ _ | refine blk_drew ?_ | refine blk_alloc ?_ _)); exact BK262.out⟩, ⟨by repeat (first | (with_reducible first | exact HB.out | apply below_alloc | apply pw_below_drewN | apply below_drew1 | refine below_set ?_ GE262.out) | exact HB.out)⟩⟩
            · replace c15 := Bool.eq_false_iff.mpr c15
              subst c15
              have H1 : (ether_Check.j1 kj1 true a0_0 a0_1 a0_2 a0_3 a0_4 a0_5 a0_6 a0_7) = some r := by rw [if_neg (show ¬ (false = true) by decide)] at H; exact H
              clear H
              have H := H1
              clear H1
              have H' := Aside0.mk H
              clear H
              have hcz23_0 : wc.cell? ⟨gb262, 0, none⟩ = some (.int .u64 a0_0) := (blk_cell BK262.out 0).trans rfl
              have hcz23_1 : wc.cell? ⟨gb262, 1, none⟩ = some (.int .u64 a0_1) := (blk_cell BK262.out 1).trans rfl
              have hcz23_2 : wc.cell? ⟨gb262, 2, none⟩ = some (.bool a0_2) := (blk_cell BK262.out 2).trans rfl
              have hcz23_3 : wc.cell? ⟨gb262, 3, none⟩ = some (.int .i64 a0_3) := (blk_cell BK262.out 3).trans rfl
              have hcz23_4 : wc.cell? ⟨gb262, 4, none⟩ = some (.bool a0_4) := (blk_cell BK262.out 4).trans rfl
              have hcz23_5 : wc.cell? ⟨gb262, 5, none⟩ = some (.int .i64 a0_5) := (blk_cell BK262.out 5).trans rfl
              have hcz23_6 : wc.cell? ⟨gb262, 6, none⟩ = some (.int .i64 a0_6) := (blk_cell BK262.out 6).trans rfl
              have hcz23_7 : wc.cell? ⟨gb262, 7, none⟩ = some (.string a0_7) := (blk_cell BK262.out 7).trans rfl
              have hfz23_0 := blk_frozen BK262.out 0
              have hfz23_1 := blk_frozen BK262.out 1
              have hfz23_2 := blk_frozen BK262.out 2
              have hfz23_3 := blk_frozen BK262.out 3
              have hfz23_4 := blk_frozen BK262.out 4
              have hfz23_5 := blk_frozen BK262.out 5
              have hfz23_6 := blk_frozen BK262.out 6
              have hfz23_7 := blk_frozen BK262.out 7
              go_wp2_with (first | (go_at_call 36; (with_reducible refine (ether_tag.calls a0_2 a0_3 a0_4 a0_5 false _ A14.out).mono ?_); rintro e w24 ⟨rfl, hb⟩; have n0_ := Aside0.mk (blk_below (g := gb262) (o := .cells #[.int .u64 a0_0, .int .u64 a0_1, .bool a0_2, .int .i64 a0_3, .bool a0_4, .int .i64 a0_5, .int .i64 a0_6, .string a0_7] 40 (0, 0)) (by (with_reducible repeat (first | refine blk_drewN ?_ _ | refine blk_drew ?_ | refine blk_alloc ?_ _)); exact BK262.out) hb); have n1_ := Aside0.mk (below_step (by repeat (first | (with_reducible first | exact HB.out | apply below_alloc | apply pw_below_drewN | apply below_drew1 | refine below_set ?_ GE262.out) | exact HB.out)) hb); clear BK262; clear HB; have BK262 := n0_; have HB := n1_; clear n0_ n1_; have hcy1_262_0 := (show World.cell? _ ⟨gb262, 0, none⟩ = some (.int .u64 a0_0) from (blk_cell BK262.out 0).trans rfl); have hcy1_262_1 := (show World.cell? _ ⟨gb262, 1, none⟩ = some (.int .u64 a0_1) from (blk_cell BK262.out 1).trans rfl); have hcy1_262_2 := (show World.cell? _ ⟨gb262, 2, none⟩ = some (.bool a0_2) from (blk_cell BK262.out 2).trans rfl); have hcy1_262_3 := (show World.cell? _ ⟨gb262, 3, none⟩ = some (.int .i64 a0_3) from (blk_cell BK262.out 3).trans rfl); have hcy1_262_4 := (show World.cell? _ ⟨gb262, 4, none⟩ = some (.bool a0_4) from (blk_cell BK262.out 4).trans rfl); have hcy1_262_5 := (show World.cell? _ ⟨gb262, 5, none⟩ = some (.int .i64 a0_5) from (blk_cell BK262.out 5).trans rfl); have hcy1_262_6 := (show World.cell? _ ⟨gb262, 6, none⟩ = some (.int .i64 a0_6) from (blk_cell BK262.out 6).trans rfl); have hcy1_262_7 := (show World.cell? _ ⟨gb262, 7, none⟩ = some (.string a0_7) from (blk_cell BK262.out 7).trans rfl); (try clear hb); (try clear hb2); (try clear hk); (try clear hi)))
              go_meet
              case rel => exact ⟨_, (true), (by first | rfl | (simp; done) | (simp [*]; done)), H', ⟨by have := HJ1.out; first | omega | exact Nat.le_refl _⟩, ⟨by (with_reducible repeat (first | refine blk_drewN ?_ _ | refine blk_drew ?_ | refine blk_alloc ?_ _)); exact BK262.out⟩, ⟨by repeat (first | (with_reducible first | exact HB.out | apply below_alloc | apply pw_below_drewN | apply below_drew1 | refine below_set ?_ GE262.out) | exact HB.out)⟩⟩
      case rest =>
        clear HC9
        try clear c1
        try clear c2
        try clear p2
        try clear c4
        try clear c4b0
        try clear c5
        try clear c5b0
        try clear c10
        try clear c10b0
        try clear c12
        try clear c12b0
        try clear c15
        try clear c16
        try clear c16b0
        try clear c16b1
        try clear hcz11_0
        try clear hcz11_1
        try clear hcz11_2
        try clear hcz11_3
        try clear hcz11_4
        try clear hcz11_5
        try clear hcz11_6
        try clear hcz11_7
        try clear hcz13_0
        try clear hcz13_1
        try clear hcz13_2
        try clear hcz13_3
        try clear hcz13_4
        try clear hcz13_5
        try clear hcz13_6
        try clear hcz13_7
        try clear hcz17_0
        try clear hcz17_1
        try clear hcz17_2
        try clear hcz17_3
        try clear hcz17_4
        try clear hcz17_5
        try clear hcz17_6
        try clear hcz17_7
        try clear hcz19_0
        try clear hcz19_1
        try clear hcz19_2
        try clear hcz19_3
        try clear hcz19_4
        try clear hcz19_5
        try clear hcz19_6
        try clear hcz19_7
        try clear hcz20_0
        try clear hcz20_1
        try clear hcz20_2
        try clear hcz20_3
        try clear hcz20_4
        try clear hcz20_5
        try clear hcz20_6
        try clear hcz20_7
        try clear hcz22_0
        try clear hcz22_1
        try clear hcz22_2
        try clear hcz22_3
        try clear hcz22_4
        try clear hcz22_5
        try clear hcz22_6
        try clear hcz22_7
        try clear hcz23_0
        try clear hcz23_1
        try clear hcz23_2
        try clear hcz23_3
        try clear hcz23_4
        try clear hcz23_5
        try clear hcz23_6
        try clear hcz23_7
        try clear hcz6_0
        try clear hcz6_1
        try clear hcz6_2
        try clear hcz6_3
        try clear hcz6_4
        try clear hcz6_5
        try clear hcz6_6
        try clear hcz6_7
        try clear hcz7_0
        try clear hcz7_1
        try clear hcz7_2
        try clear hcz7_3
        try clear hcz7_4
        try clear hcz7_5
        try clear hcz7_6
        try clear hcz7_7
        try clear hcz8_0
        try clear hcz8_1
        try clear hcz8_2
        try clear hcz8_3
        try clear hcz8_4
        try clear hcz8_5
        try clear hcz8_6
        try clear hcz8_7
        try clear hfz11_0
        try clear hfz11_1
        try clear hfz11_2
        try clear hfz11_3
        try clear hfz11_4
        try clear hfz11_5
        try clear hfz11_6
        try clear hfz11_7
        try clear hfz13_0
        try clear hfz13_1
        try clear hfz13_2
        try clear hfz13_3
        try clear hfz13_4
        try clear hfz13_5
        try clear hfz13_6
        try clear hfz13_7
        try clear hfz17_0
        try clear hfz17_1
        try clear hfz17_2
        try clear hfz17_3
        try clear hfz17_4
        try clear hfz17_5
        try clear hfz17_6
        try clear hfz17_7
        try clear hfz19_0
        try clear hfz19_1
        try clear hfz19_2
        try clear hfz19_3
        try clear hfz19_4
        try clear hfz19_5
        try clear hfz19_6
        try clear hfz19_7
        try clear hfz20_0
        try clear hfz20_1
        try clear hfz20_2
        try clear hfz20_3
        try clear hfz20_4
        try clear hfz20_5
        try clear hfz20_6
        try clear hfz20_7
        try clear hfz22_0
        try clear hfz22_1
        try clear hfz22_2
        try clear hfz22_3
        try clear hfz22_4
        try clear hfz22_5
        try clear hfz22_6
        try clear hfz22_7
        try clear hfz23_0
        try clear hfz23_1
        try clear hfz23_2
        try clear hfz23_3
        try clear hfz23_4
        try clear hfz23_5
        try clear hfz23_6
        try clear hfz23_7
        try clear hfz6_0
        try clear hfz6_1
        try clear hfz6_2
        try clear hfz6_3
        try clear hfz6_4
        try clear hfz6_5
        try clear hfz6_6
        try clear hfz6_7
        try clear hfz7_0
        try clear hfz7_1
        try clear hfz7_2
        try clear hfz7_3
        try clear hfz7_4
        try clear hfz7_5
        try clear hfz7_6
        try clear hfz7_7
        try clear hfz8_0
        try clear hfz8_1
        try clear hfz8_2
        try clear hfz8_3
        try clear hfz8_4
        try clear hfz8_5
        try clear hfz8_6
        try clear hfz8_7
        try clear p2
        obtain ⟨kq, x17_8, rfl, HA, HJ8, BK262, HB⟩ := hcut
        cases kq with
        | zero => exact absurd HA.out (by simp [ether_Check.j1])
        | succ kj8 =>
          have H := HA.out
          clear HA
          simp only [ether_Check.j1] at H
          by_cases c25 : x17_8 = true
          · subst c25
            have H1 : (some 41) = some r := by rw [if_pos rfl] at H; exact H
            clear H
            have H := H1
            clear H1
            obtain rfl := Option.some.inj H
            go_wp2
            go_ret
            exact ⟨by first | rfl | (simp [errW_none, errW_some] <;> rfl) | (simp [*, errW_none, errW_some] <;> rfl) | (simp [*, IntKind.wrap_u32]; done) | (simp_all [IntKind.wrap_u32]; done), by repeat (first | (with_reducible first | exact HB.out | apply below_alloc | apply pw_below_drewN | apply below_drew1 | refine below_set ?_ GE262.out) | exact HB.out)⟩
          · replace c25 := Bool.eq_false_iff.mpr c25
            subst c25
            have H1 : (if a0_6 = 0 then (ether_Check.j2 kj8 (decide ((a0_7.size : Int) > 1500)) a0_0 a0_1 a0_2 a0_3 a0_4 a0_5 a0_6 a0_7) else (ether_Check.j2 kj8 false a0_0 a0_1 a0_2 a0_3 a0_4 a0_5 a0_6 a0_7)) = some r := by rw [if_neg (show ¬ (false = true) by decide)] at H; exact H
            clear H
            have H := H1
            clear H1
            have HC26 := Aside0.mk H
            clear H
            go_upto_region 4 with (fail)
            go_cut [41] (fun v41 wc => ∃ (kq : Nat) (x41_25 : Bool), v41 = .bool x41_25 ∧ Aside0 (ether_Check.j2 kq x41_25 a0_0 a0_1 a0_2 a0_3 a0_4 a0_5 a0_6 a0_7 = some r) ∧ Aside0 (kq ≤ kj8) ∧ Aside0 (wc.heap[gb262]? = some (.cells #[.int .u64 a0_0, .int .u64 a0_1, .bool a0_2, .int .i64 a0_3, .bool a0_4, .int .i64 a0_5, .int .i64 a0_6, .string a0_7] 40 (0, 0))) ∧ Aside0 (Below w.heap.size w wc))
            case first =>
              have H := HC26.out
              clear HC26
              by_cases c27 : a0_6 = 0
              · rw [if_pos c27] at H
                have c27b0 : (a0_6 == 0) = true := beq_iff_eq.mpr c27
                have c27b1 : (a0_6 != 0) = false := bne_eq_false_iff_eq.mpr c27
                clear c27
                (first | rw [c27b0] | (simp only [i64_w, i32_w]; rw [c27b0]) | skip)
                have H' := Aside0.mk H
                clear H
                have hcz28_0 : wc.cell? ⟨gb262, 0, none⟩ = some (.int .u64 a0_0) := (blk_cell BK262.out 0).trans rfl
                have hcz28_1 : wc.cell? ⟨gb262, 1, none⟩ = some (.int .u64 a0_1) := (blk_cell BK262.out 1).trans rfl
                have hcz28_2 : wc.cell? ⟨gb262, 2, none⟩ = some (.bool a0_2) := (blk_cell BK262.out 2).trans rfl
                have hcz28_3 : wc.cell? ⟨gb262, 3, none⟩ = some (.int .i64 a0_3) := (blk_cell BK262.out 3).trans rfl
                have hcz28_4 : wc.cell? ⟨gb262, 4, none⟩ = some (.bool a0_4) := (blk_cell BK262.out 4).trans rfl
                have hcz28_5 : wc.cell? ⟨gb262, 5, none⟩ = some (.int .i64 a0_5) := (blk_cell BK262.out 5).trans rfl
                have hcz28_6 : wc.cell? ⟨gb262, 6, none⟩ = some (.int .i64 a0_6) := (blk_cell BK262.out 6).trans rfl
                have hcz28_7 : wc.cell? ⟨gb262, 7, none⟩ = some (.string a0_7) := (blk_cell BK262.out 7).trans rfl
                have hfz28_0 := blk_frozen BK262.out 0
                have hfz28_1 := blk_frozen BK262.out 1
                have hfz28_2 := blk_frozen BK262.out 2
                have hfz28_3 := blk_frozen BK262.out 3
                have hfz28_4 := blk_frozen BK262.out 4
                have hfz28_5 := blk_frozen BK262.out 5
                have hfz28_6 := blk_frozen BK262.out 6
                have hfz28_7 := blk_frozen BK262.out 7
                go_wp2
                go_meet
                case rel => exact ⟨_, (decide ((a0_7.size : Int) > 1500)), (by first | rfl | (simp; done) | (simp [*]; done)), H', ⟨by have := HJ1.out; have := HJ8.out; first | omega | exact Nat.le_refl _⟩, ⟨by (with_reducible repeat (first | refine blk_drewN ?_ _ | refine blk_drew ?_ | refine blk_alloc ?_ _)); exact BK262.out⟩, ⟨by repeat (first | (with_reducible first | exact HB.out | apply below_alloc | apply pw_below_drewN | apply below_drew1 | refine below_set ?_ GE262.out) | exact HB.out)⟩⟩
              · rw [if_neg c27] at H
                have c27b0 : (a0_6 == 0) = false := beq_eq_false_iff_ne.mpr c27
                have c27b1 : (a0_6 != 0) = true := bne_iff_ne.mpr c27
                (first | rw [c27b0] | (simp only [i64_w, i32_w]; rw [c27b0]) | skip)
                have H' := Aside0.mk H
                clear H
                have hcz29_0 : wc.cell? ⟨gb262, 0, none⟩ = some (.int .u64 a0_0) := (blk_cell BK262.out 0).trans rfl
                have hcz29_1 : wc.cell? ⟨gb262, 1, none⟩ = some (.int .u64 a0_1) := (blk_cell BK262.out 1).trans rfl
                have hcz29_2 : wc.cell? ⟨gb262, 2, none⟩ = some (.bool a0_2) := (blk_cell BK262.out 2).trans rfl
                have hcz29_3 : wc.cell? ⟨gb262, 3, none⟩ = some (.int .i64 a0_3) := (blk_cell BK262.out 3).trans rfl
                have hcz29_4 : wc.cell? ⟨gb262, 4, none⟩ = some (.bool a0_4) := (blk_cell BK262.out 4).trans rfl
                have hcz29_5 : wc.cell? ⟨gb262, 5, none⟩ = some (.int .i64 a0_5) := (blk_cell BK262.out 5).trans rfl
                have hcz29_6 : wc.cell? ⟨gb262, 6, none⟩ = some (.int .i64 a0_6) := (blk_cell BK262.out 6).trans rfl
                have hcz29_7 : wc.cell? ⟨gb262, 7, none⟩ = some (.string a0_7) := (blk_cell BK262.out 7).trans rfl
                have hfz29_0 := blk_frozen BK262.out 0
                have hfz29_1 := blk_frozen BK262.out 1
                have hfz29_2 := blk_frozen BK262.out 2
                have hfz29_3 := blk_frozen BK262.out 3
                have hfz29_4 := blk_frozen BK262.out 4
                have hfz29_5 := blk_frozen BK262.out 5
                have hfz29_6 := blk_frozen BK262.out 6
                have hfz29_7 := blk_frozen BK262.out 7
                go_wp2
                go_meet
                case rel => exact ⟨_, (false), (by first | rfl | (simp; done) | (simp [*]; done)), H', ⟨by have := HJ1.out; have := HJ8.out; first | omega | exact Nat.le_refl _⟩, ⟨by (with_reducible repeat (first | refine blk_drewN ?_ _ | refine blk_drew ?_ | refine blk_alloc ?_ _)); exact BK262.out⟩, ⟨by repeat (first | (with_reducible first | exact HB.out | apply below_alloc | apply pw_below_drewN | apply below_drew1 | refine below_set ?_ GE262.out) | exact HB.out)⟩⟩
            case rest =>
              clear HC26
              try clear c1
              try clear c2
              try clear p2
              try clear c4
              try clear c4b0
              try clear c5
              try clear c5b0
              try clear c10
              try clear c10b0
              try clear c12
              try clear c12b0
              try clear c15
              try clear c16
              try clear c16b0
              try clear c16b1
              try clear c25
              try clear c27
              try clear c27b0
              try clear c27b1
              try clear hcz11_0
              try clear hcz11_1
              try clear hcz11_2
              try clear hcz11_3
              try clear hcz11_4
              try clear hcz11_5
              try clear hcz11_6
              try clear hcz11_7
              try clear hcz13_0
              try clear hcz13_1
              try clear hcz13_2
              try clear hcz13_3
              try clear hcz13_4
              try clear hcz13_5
              try clear hcz13_6
              try clear hcz13_7
              try clear hcz17_0
              try clear hcz17_1
              try clear hcz17_2
              try clear hcz17_3
              try clear hcz17_4
              try clear hcz17_5
              try clear hcz17_6
              try clear hcz17_7
              try clear hcz19_0
              try clear hcz19_1
              try clear hcz19_2
              try clear hcz19_3
              try clear hcz19_4
              try clear hcz19_5
              try clear hcz19_6
              try clear hcz19_7
              try clear hcz20_0
              try clear hcz20_1
              try clear hcz20_2
              try clear hcz20_3
              try clear hcz20_4
              try clear hcz20_5
              try clear hcz20_6
              try clear hcz20_7
              try clear hcz22_0
              try clear hcz22_1
              try clear hcz22_2
              try clear hcz22_3
              try clear hcz22_4
              try clear hcz22_5
              try clear hcz22_6
              try clear hcz22_7
              try clear hcz23_0
              try clear hcz23_1
              try clear hcz23_2
              try clear hcz23_3
              try clear hcz23_4
              try clear hcz23_5
              try clear hcz23_6
              try clear hcz23_7
              try clear hcz28_0
              try clear hcz28_1
              try clear hcz28_2
              try clear hcz28_3
              try clear hcz28_4
              try clear hcz28_5
              try clear hcz28_6
              try clear hcz28_7
              try clear hcz29_0
              try clear hcz29_1
              try clear hcz29_2
              try clear hcz29_3
              try clear hcz29_4
              try clear hcz29_5
              try clear hcz29_6
              try clear hcz29_7
              try clear hcz6_0
              try clear hcz6_1
              try clear hcz6_2
              try clear hcz6_3
              try clear hcz6_4
              try clear hcz6_5
              try clear hcz6_6
              try clear hcz6_7
              try clear hcz7_0
              try clear hcz7_1
              try clear hcz7_2
              try clear hcz7_3
              try clear hcz7_4
              try clear hcz7_5
              try clear hcz7_6
              try clear hcz7_7
              try clear hcz8_0
              try clear hcz8_1
              try clear hcz8_2
              try clear hcz8_3
              try clear hcz8_4
              try clear hcz8_5
              try clear hcz8_6
              try clear hcz8_7
              try clear hfz11_0
              try clear hfz11_1
              try clear hfz11_2
              try clear hfz11_3
              try clear hfz11_4
              try clear hfz11_5
              try clear hfz11_6
              try clear hfz11_7
              try clear hfz13_0
              try clear hfz13_1
              try clear hfz13_2
              try clear hfz13_3
              try clear hfz13_4
              try clear hfz13_5
              try clear hfz13_6
              try clear hfz13_7
              try clear hfz17_0
              try clear hfz17_1
              try clear hfz17_2
              try clear hfz17_3
              try clear hfz17_4
              try clear hfz17_5
              try clear hfz17_6
              try clear hfz17_7
              try clear hfz19_0
              try clear hfz19_1
              try clear hfz19_2
              try clear hfz19_3
              try clear hfz19_4
              try clear hfz19_5
              try clear hfz19_6
              try clear hfz19_7
              try clear hfz20_0
              try clear hfz20_1
              try clear hfz20_2
              try clear hfz20_3
              try clear hfz20_4
              try clear hfz20_5
              try clear hfz20_6
              try clear hfz20_7
              try clear hfz22_0
              try clear hfz22_1
              try clear hfz22_2
              try clear hfz22_3
              try clear hfz22_4
              try clear hfz22_5
              try clear hfz22_6
              try clear hfz22_7
              try clear hfz23_0
              try clear hfz23_1
              try clear hfz23_2
              try clear hfz23_3
              try clear hfz23_4
              try clear hfz23_5
              try clear hfz23_6
              try clear hfz23_7
              try clear hfz28_0
              try clear hfz28_1
              try clear hfz28_2
              try clear hfz28_3
              try clear hfz28_4
              try clear hfz28_5
              try clear hfz28_6
              try clear hfz28_7
              try clear hfz29_0
              try clear hfz29_1
              try clear hfz29_2
              try clear hfz29_3
              try clear hfz29_4
              try clear hfz29_5
              try clear hfz29_6
              try clear hfz29_7
              try clear hfz6_0
              try clear hfz6_1
              try clear hfz6_2
              try clear hfz6_3
              try clear hfz6_4
              try clear hfz6_5
              try clear hfz6_6
              try clear hfz6_7
              try clear hfz7_0
              try clear hfz7_1
              try clear hfz7_2
              try clear hfz7_3
              try clear hfz7_4
              try clear hfz7_5
              try clear hfz7_6
              try clear hfz7_7
              try clear hfz8_0
              try clear hfz8_1
              try clear hfz8_2
              try clear hfz8_3
              try clear hfz8_4
              try clear hfz8_5
              try clear hfz8_6
              try clear hfz8_7
              try clear p2
              obtain ⟨kq, x41_25, rfl, HA, HJ25, BK262, HB⟩ := hcut
              cases kq with
              | zero => exact absurd HA.out (by simp [ether_Check.j2])
              | succ kj25 =>
                have H := HA.out
                clear HA
                simp only [ether_Check.j2] at H
                by_cases c30 : x41_25 = true
                · subst c30
                  have H1 : (some 40) = some r := by rw [if_pos rfl] at H; exact H
                  clear H
                  have H := H1
                  clear H1
                  obtain rfl := Option.some.inj H
                  go_wp2
                  go_ret
                  exact ⟨by first | rfl | (simp [errW_none, errW_some] <;> rfl) | (simp [*, errW_none, errW_some] <;> rfl) | (simp [*, IntKind.wrap_u32]; done) | (simp_all [IntKind.wrap_u32]; done), by repeat (first | (with_reducible first | exact HB.out | apply below_alloc | apply pw_below_drewN | apply below_drew1 | refine below_set ?_ GE262.out) | exact HB.out)⟩
                · replace c30 := Bool.eq_false_iff.mpr c30
                  subst c30
                  have H1 : ((ether_size.f a0_0 a0_1 a0_2 a0_3 a0_4 a0_5 a0_6 a0_7).bind fun t264 => (if t264 > 1600 then (some 41) else (some 0))) = some r := by rw [if_neg (show ¬ (false = true) by decide)] at H; exact H
                  clear H
                  have H := H1
                  clear H1
                  replace H := Option.bind_eq_some_iff.mp H
                  obtain ⟨t264, A310, H⟩ := H
                  replace H : (if t264 > 1600 then (some 41) else (some 0)) = some r := H
                  have A31 := Aside0.mk A310
                  clear A310
                  by_cases c32 : t264 > 1600
                  · rw [if_pos c32] at H
                    have c32b0 : decide (1600 < t264) = true := decide_eq_true c32
                    clear c32
                    obtain rfl := Option.some.inj H
                    have hcz33_0 : wc.cell? ⟨gb262, 0, none⟩ = some (.int .u64 a0_0) := (blk_cell BK262.out 0).trans rfl
                    have hcz33_1 : wc.cell? ⟨gb262, 1, none⟩ = some (.int .u64 a0_1) := (blk_cell BK262.out 1).trans rfl
                    have hcz33_2 : wc.cell? ⟨gb262, 2, none⟩ = some (.bool a0_2) := (blk_cell BK262.out 2).trans rfl
                    have hcz33_3 : wc.cell? ⟨gb262, 3, none⟩ = some (.int .i64 a0_3) := (blk_cell BK262.out 3).trans rfl
                    have hcz33_4 : wc.cell? ⟨gb262, 4, none⟩ = some (.bool a0_4) := (blk_cell BK262.out 4).trans rfl
                    have hcz33_5 : wc.cell? ⟨gb262, 5, none⟩ = some (.int .i64 a0_5) := (blk_cell BK262.out 5).trans rfl
                    have hcz33_6 : wc.cell? ⟨gb262, 6, none⟩ = some (.int .i64 a0_6) := (blk_cell BK262.out 6).trans rfl
                    have hcz33_7 : wc.cell? ⟨gb262, 7, none⟩ = some (.string a0_7) := (blk_cell BK262.out 7).trans rfl
                    have hfz33_0 := blk_frozen BK262.out 0
                    have hfz33_1 := blk_frozen BK262.out 1
                    have hfz33_2 := blk_frozen BK262.out 2
                    have hfz33_3 := blk_frozen BK262.out 3
                    have hfz33_4 := blk_frozen BK262.out 4
                    have hfz33_5 := blk_frozen BK262.out 5
                    have hfz33_6 := blk_frozen BK262.out 6
                    have hfz33_7 := blk_frozen BK262.out 7
                    go_wp2_with (first | ((with_reducible refine gate_callee (f := 37) rfl ?_); refine goesL_ (some 53) rfl rfl Tryd.func37 (by kernel_rfl) rfl #[.agg #[.int .u64 a0_0, .int .u64 a0_1, .bool a0_2, .int .i64 a0_3, .bool a0_4, .int .i64 a0_5, .int .i64 a0_6, .string a0_7]] rfl (by (try simp only [List.map_toArray, List.map_cons, List.map_nil]); first | done | rfl | (simp only [List.length_drop, List.length_take]; rfl)) ?_; (with_reducible refine (ether_size.calls a0_0 a0_1 a0_2 a0_3 a0_4 a0_5 a0_6 a0_7 t264 _ A31.out).mono ?_); rintro e w34 ⟨rfl, hb⟩; refine ⟨_, rfl, ?_⟩; have n0_ := Aside0.mk (blk_below (g := gb262) (o := .cells #[.int .u64 a0_0, .int .u64 a0_1, .bool a0_2, .int .i64 a0_3, .bool a0_4, .int .i64 a0_5, .int .i64 a0_6, .string a0_7] 40 (0, 0)) (by (with_reducible repeat (first | refine blk_drewN ?_ _ | refine blk_drew ?_ | refine blk_alloc ?_ _)); exact BK262.out) hb); have n1_ := Aside0.mk (below_step (by repeat (first | (with_reducible first | exact HB.out | apply below_alloc | apply pw_below_drewN | apply below_drew1 | refine below_set ?_ GE262.out) | exact HB.out)) hb); clear BK262; clear HB; have BK262 := n0_; have HB := n1_; clear n0_ n1_; have hcy1_262_0 := (show World.cell? _ ⟨gb262, 0, none⟩ = some (.int .u64 a0_0) from (blk_cell BK262.out 0).trans rfl); have hcy1_262_1 := (show World.cell? _ ⟨gb262, 1, none⟩ = some (.int .u64 a0_1) from (blk_cell BK262.out 1).trans rfl); have hcy1_262_2 := (show World.cell? _ ⟨gb262, 2, none⟩ = some (.bool a0_2) from (blk_cell BK262.out 2).trans rfl); have hcy1_262_3 := (show World.cell? _ ⟨gb262, 3, none⟩ = some (.int .i64 a0_3) from (blk_cell BK262.out 3).trans rfl); have hcy1_262_4 := (show World.cell? _ ⟨gb262, 4, none⟩ = some (.bool a0_4) from (blk_cell BK262.out 4).trans rfl); have hcy1_262_5 := (show World.cell? _ ⟨gb262, 5, none⟩ = some (.int .i64 a0_5) from (blk_cell BK262.out 5).trans rfl); have hcy1_262_6 := (show World.cell? _ ⟨gb262, 6, none⟩ = some (.int .i64 a0_6) from (blk_cell BK262.out 6).trans rfl); have hcy1_262_7 := (show World.cell? _ ⟨gb262, 7, none⟩ = some (.string a0_7) from (blk_cell BK262.out 7).trans rfl); (try clear hb); (try clear hb2); (try clear hk); (try clear hi)))
                    go_ret
                    exact ⟨by first | rfl | (simp [errW_none, errW_some] <;> rfl) | (simp [*, errW_none, errW_some] <;> rfl) | (simp [*, IntKind.wrap_u32]; done) | (simp_all [IntKind.wrap_u32]; done), by repeat (first | (with_reducible first | exact HB.out | apply below_alloc | apply pw_below_drewN | apply below_drew1 | refine below_set ?_ GE262.out) | exact HB.out)⟩
                  · rw [if_neg c32] at H
                    have c32b0 : decide (1600 < t264) = false := decide_eq_false c32
                    clear c32
                    obtain rfl := Option.some.inj H
                    have hcz35_0 : wc.cell? ⟨gb262, 0, none⟩ = some (.int .u64 a0_0) := (blk_cell BK262.out 0).trans rfl
                    have hcz35_1 : wc.cell? ⟨gb262, 1, none⟩ = some (.int .u64 a0_1) := (blk_cell BK262.out 1).trans rfl
                    have hcz35_2 : wc.cell? ⟨gb262, 2, none⟩ = some (.bool a0_2) := (blk_cell BK262.out 2).trans rfl
                    have hcz35_3 : wc.cell? ⟨gb262, 3, none⟩ = some (.int .i64 a0_3) := (blk_cell BK262.out 3).trans rfl
                    have hcz35_4 : wc.cell? ⟨gb262, 4, none⟩ = some (.bool a0_4) := (blk_cell BK262.out 4).trans rfl
                    have hcz35_5 : wc.cell? ⟨gb262, 5, none⟩ = some (.int .i64 a0_5) := (blk_cell BK262.out 5).trans rfl
                    have hcz35_6 : wc.cell? ⟨gb262, 6, none⟩ = some (.int .i64 a0_6) := (blk_cell BK262.out 6).trans rfl
                    have hcz35_7 : wc.cell? ⟨gb262, 7, none⟩ = some (.string a0_7) := (blk_cell BK262.out 7).trans rfl
                    have hfz35_0 := blk_frozen BK262.out 0
                    have hfz35_1 := blk_frozen BK262.out 1
                    have hfz35_2 := blk_frozen BK262.out 2
                    have hfz35_3 := blk_frozen BK262.out 3
                    have hfz35_4 := blk_frozen BK262.out 4
                    have hfz35_5 := blk_frozen BK262.out 5
                    have hfz35_6 := blk_frozen BK262.out 6
                    have hfz35_7 := blk_frozen BK262.out 7
                    go_wp2_with (first | ((with_reducible refine gate_callee (f := 37) rfl ?_); refine goesL_ (some 53) rfl rfl Tryd.func37 (by kernel_rfl) rfl #[.agg #[.int .u64 a0_0, .int .u64 a0_1, .bool a0_2, .int .i64 a0_3, .bool a0_4, .int .i64 a0_5, .int .i64 a0_6, .string a0_7]] rfl (by (try simp only [List.map_toArray, List.map_cons, List.map_nil]); first | done | rfl | (simp only [List.length_drop, List.length_take]; rfl)) ?_; (with_reducible refine (ether_size.calls a0_0 a0_1 a0_2 a0_3 a0_4 a0_5 a0_6 a0_7 t264 _ A31.out).mono ?_); rintro e w36 ⟨rfl, hb⟩; refine ⟨_, rfl, ?_⟩; have n0_ := Aside0.mk (blk_below (g := gb262) (o := .cells #[.int .u64 a0_0, .int .u64 a0_1, .bool a0_2, .int .i64 a0_3, .bool a0_4, .int .i64 a0_5, .int .i64 a0_6, .string a0_7] 40 (0, 0)) (by (with_reducible repeat (first | refine blk_drewN ?_ _ | refine blk_drew ?_ | refine blk_alloc ?_ _)); exact BK262.out) hb); have n1_ := Aside0.mk (below_step (by repeat (first | (with_reducible first | exact HB.out | apply below_alloc | apply pw_below_drewN | apply below_drew1 | refine below_set ?_ GE262.out) | exact HB.out)) hb); clear BK262; clear HB; have BK262 := n0_; have HB := n1_; clear n0_ n1_; have hcy1_262_0 := (show World.cell? _ ⟨gb262, 0, none⟩ = some (.int .u64 a0_0) from (blk_cell BK262.out 0).trans rfl); have hcy1_262_1 := (show World.cell? _ ⟨gb262, 1, none⟩ = some (.int .u64 a0_1) from (blk_cell BK262.out 1).trans rfl); have hcy1_262_2 := (show World.cell? _ ⟨gb262, 2, none⟩ = some (.bool a0_2) from (blk_cell BK262.out 2).trans rfl); have hcy1_262_3 := (show World.cell? _ ⟨gb262, 3, none⟩ = some (.int .i64 a0_3) from (blk_cell BK262.out 3).trans rfl); have hcy1_262_4 := (show World.cell? _ ⟨gb262, 4, none⟩ = some (.bool a0_4) from (blk_cell BK262.out 4).trans rfl); have hcy1_262_5 := (show World.cell? _ ⟨gb262, 5, none⟩ = some (.int .i64 a0_5) from (blk_cell BK262.out 5).trans rfl); have hcy1_262_6 := (show World.cell? _ ⟨gb262, 6, none⟩ = some (.int .i64 a0_6) from (blk_cell BK262.out 6).trans rfl); have hcy1_262_7 := (show World.cell? _ ⟨gb262, 7, none⟩ = some (.string a0_7) from (blk_cell BK262.out 7).trans rfl); (try clear hb); (try clear hb2); (try clear hk); (try clear hi)))
                    go_ret
                    exact ⟨by first | rfl | (simp [errW_none, errW_some] <;> rfl) | (simp [*, errW_none, errW_some] <;> rfl) | (simp [*, IntKind.wrap_u32]; done) | (simp_all [IntKind.wrap_u32]; done), by repeat (first | (with_reducible first | exact HB.out | apply below_alloc | apply pw_below_drewN | apply below_drew1 | refine below_set ?_ GE262.out) | exact HB.out)⟩

end Go.Proofs.YtjlikmonnnbnaaaDoor.P
