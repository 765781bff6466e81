-- slim
-- Written by wip/hprint.py (this session's program) through the kit's print program; hand contracts are marked 'by hand'.
import Derived.Test.YtgdjekigkimhnaaGreatDoorAbb
import Derived.Test.YtgdjekigkimhnaaGreatDoorPx0
import Derived.Test.YtgdjekigkimhnaaGreatDoorPx25
import Derived.Test.YtgdjekigkimhnaaGreatDoorPx28
namespace Go.Proofs.YtgdjekigkimhnaaGreatDoor.P
open Go.RowKit Go.Proofs.YtgdjekigkimhnaaGreatDoorW.PrintWords Go.Proofs.YtgdjekigkimhnaaGreatDoorW.PrintLast Go.Proofs.YtgdjekigkimhnaaGreatDoorW.PrintMore
attribute [local go_sem] max2_int min2_int max_two min_two max_three min_three max_four min_four   -- for this text's walks alone
set_option linter.unusedVariables false
set_option linter.unusedSimpArgs false

theorem qr64 {p : Prop} (h : p := by (with_reducible repeat (first | refine blk_drewN ?_ _ | refine blk_drew ?_ | refine blk_alloc ?_ _)); exact BK230.out) : p := h
theorem qxc2 {p : Prop} (h : p := by (with_reducible repeat (first | refine blk_drewN ?_ _ | refine blk_drew ?_ | refine blk_alloc ?_ _)); exact BK231.out) : p := h
theorem qq3y {p : Prop} (h : p := by exact ⟨(blk_cell BK230.out 0).trans rfl, (blk_cell BK230.out 1).trans rfl, (blk_cell BK231.out 0).trans rfl, (blk_cell BK231.out 1).trans rfl⟩) : p := h
theorem qquw {p : Prop} (h : p := by repeat (first | (with_reducible first | exact HB.out | apply below_alloc | apply pw_below_drewN | apply below_drew1 | refine below_set ?_ GE230.out) | exact HB.out)) : p := h
theorem qtmc {p : Prop} (h : p := by repeat (first | (with_reducible first | exact HB.out | apply below_alloc | apply pw_below_drewN | apply below_drew1 | refine below_set ?_ GE230.out | refine below_set ?_ GE231.out) | exact HB.out)) : p := h
theorem qz3d {p : Prop} (h : p := by rw [hg]; exact Nat.ne_of_gt (blk_lt (g := gb230) qr64)) : p := h
theorem qjfy {p : Prop} (h : p := by rw [hg]; exact Nat.ne_of_lt (blk_lt (g := gb230) qr64)) : p := h
/-! ### gangwayref02_Near: function 29 -/
def gangwayref02_Near.f (k : Nat) (a0_0 : Int) (a0_1 : Int) (a1_0 : Int) (a1_1 : Int) : Option (Bool) := (gangwayref02_Net.f k a0_0 a0_1).bind fun t232 => (if t232 = true then ((gangwayref02_Net.f k a1_0 a1_1).bind fun t233 => (if t233 = true then (if a0_0 ≥ a1_0 then ((gangwayref02_Last.f k a0_0 a0_1).bind fun t234 => ((gangwayref02_Last.f k a1_0 a1_1).bind fun t235 => (some (decide (t234 ≤ t235))))) else (some false)) else (some false))) else (some false))
theorem gangwayref02_Near.mono : ∀ a0 a1 a2 a3 k, LeO (gangwayref02_Near.f k a0 a1 a2 a3) (gangwayref02_Near.f (k + 1) a0 a1 a2 a3) := by
 intro a0 a1 a2 a3 k
 unfold gangwayref02_Near.f
 repeat' first
   | (with_reducible exact gangwayref02_Last.mono _ _ _)
   | (with_reducible exact gangwayref02_Net.mono _ _ _)
   | (with_reducible exact LeO.refl _)
   | (with_reducible exact LeO.none _)
   | (with_reducible refine LeO.ite ?_ ?_)
   | (with_reducible refine LeO.bind ?_ (fun _ => ?_))
   | exact gangwayref02_Last.mono _ _ _
   | exact gangwayref02_Net.mono _ _ _
   | exact LeO.none _
   | refine LeO.ite ?_ ?_
   | refine LeO.bind ?_ (fun _ => ?_)
def gangwayref02_Near.T1 : Bool × List (List Nat × List Nat) := (true, [([], []), ([0], [0]), ([1, 1], [1]), ([2], [2]), ([3, 2, 2], [2, 3]), ([2, 4], [2, 4]), ([5, 4], [5]), ([6], [6]), ([7, 6], [6, 7]), ([6], [6]), ([9, 6], [6, 9]), ([8, 10, 6], [6, 8, 10]), ([6, 11], [6, 11]), ([12, 6], [12]), ([13], [13]), ([14, 13, 13], [13, 14]), ([13], [13]), ([16, 15, 13], [13, 16]), ([15, 17, 13], [13, 15, 17]), ([13, 18], [13, 18]), ([19, 17, 0, 1, 2, 3, 4, 5, 6, 7, 8, 9, 10, 11, 12, 13, 14, 15, 16, 17, 18, 19], [19])])
def gangwayref02_Near.B1 : List Nat := [0, 1, 3, 7, 15, 31, 63, 127, 255, 127, 639, 2047, 4095, 8191, 16383, 32767, 16383, 131071, 262143, 524287, 1048575]
theorem gangwayref02_Near.tab1 : rtab .any (opsOf Tryz.f29 1) = gangwayref02_Near.T1 := by kernel_rfl
theorem gangwayref02_Near.bits1 : waitsOk gangwayref02_Near.T1.2 gangwayref02_Near.B1 = true := by kernel_rfl
theorem z29_0 {p : Prop} (h : p := by
 simp only [Act.put, List.setIfInBounds_toArray, List.set_cons_zero, List.set_cons_succ, i64_w, i32_w]
 rfl) : p := h
theorem z29_1 {p : Prop} (h : p := by
 show Act.put _ (some 6) _ = _
 simp only [Act.put, List.setIfInBounds_toArray, List.set_cons_zero, List.set_cons_succ, i64_w, i32_w]
 rfl) : p := h
theorem z29_2 {p : Prop} (h : p := by
 show Act.put _ (some 9) _ = _
 simp only [Act.put, List.setIfInBounds_toArray, List.set_cons_zero, List.set_cons_succ, i64_w, i32_w]
 rfl) : p := h
set_option maxHeartbeats 8000000 in
set_option maxRecDepth 100000 in
theorem gangwayref02_Near.calls (k : Nat) (a0_0 : Int) (a0_1 : Int) (a1_0 : Int) (a1_1 : Int) (r : Bool) (w : World) (h : gangwayref02_Near.f k a0_0 a0_1 a1_0 a1_1 = some r) :
  Calls Tryz.prog 29 #[.agg #[.int .u32 a0_0, .int .i64 a0_1], .agg #[.int .u32 a1_0, .int .i64 a1_1]] w fun e w' => e = .returned (.bool r) ∧ Below w.heap.size w w' := by
 have hu34 := Tryz.underlying34
 have HB := Aside0.mk (Below.refl w.heap.size w)
 have H := h
 unfold gangwayref02_Near.f at H
 clear h
 replace H := Option.bind_eq_some_iff.mp H
 obtain ⟨t232, A30, H⟩ := H
 try dsimp only at H
 have A3 := Aside0.mk A30
 clear A30
 by_cases c4 : t232 = true
 ·subst c4
  rw [if_pos rfl] at H
  replace H := Option.bind_eq_some_iff.mp H
  obtain ⟨t233, A50, H⟩ := H
  try dsimp only at H
  have A5 := Aside0.mk A50
  clear A50
  by_cases c6 : t233 = true
  ·subst c6
   rw [if_pos rfl] at H
   by_cases c7 : a0_0 ≥ a1_0
   ·rw [if_pos c7] at H
    have c7b0 : decide (a1_0 ≤ a0_0) = true := decide_eq_true c7
    clear c7
    replace H := Option.bind_eq_some_iff.mp H
    obtain ⟨t234, A80, H⟩ := H
    try dsimp only at H
    have A8 := Aside0.mk A80
    clear A80
    replace H := Option.bind_eq_some_iff.mp H
    obtain ⟨t235, A90, H⟩ := H
    try dsimp only at H
    have A9 := Aside0.mk A90
    clear A90
    obtain rfl := Option.some.inj H
    go_enter Tryz.func29, Tryz.ntmps29
    try go_wp2_with (first | ((with_reducible refine gate_dst (N := 2) rfl ?_); refine box_event qgcr (N := 2) qgcr (cs := #[.int .u32 a0_0, .int .i64 a0_1]) (t := 34) qlto ?_; intro gb230 hg w10 hbox hb; have BK230 := Aside0.mk (hbox); have GE230 := Aside0.mk ((qisx : w.heap.size ≤ gb230)); replace HB := Aside0.mk (below_step qpag hb); clear hb hbox hg) | ((with_reducible refine gate_dst (N := 3) rfl ?_); refine box_event qgcr (N := 3) qgcr (cs := #[.int .u32 a1_0, .int .i64 a1_1]) (t := 34) qlto ?_; intro gb231 hg w11 hbox hb; have BK231 := Aside0.mk (hbox); have GE231 := Aside0.mk ((by rw [hg]; exact (below_size qquw) : w.heap.size ≤ gb231)); have NB230_231 := Aside0.mk ((qjfy : gb230 ≠ gb231)); have NB231_230 := Aside0.mk ((qz3d : gb231 ≠ gb230)); replace BK230 := Aside0.mk (blk_below (g := gb230) qr64 hb); replace HB := Aside0.mk (below_step qquw hb); have hcy1_230_0 := (show World.cell? _ ⟨gb230, 0, none⟩ = some (.int .u32 a0_0) from (blk_cell BK230.out 0).trans rfl); have hcy1_230_1 := (show World.cell? _ ⟨gb230, 1, none⟩ = some (.int .i64 a0_1) from (blk_cell BK230.out 1).trans rfl); clear hb hbox hg))
    replace BK230 := Aside0.mk (blk_drew BK230.out)
    replace BK231 := Aside0.mk (blk_drew BK231.out)
    replace HB := Aside0.mk (below_drew1 HB.out)
    refine start_ (n := 21) (S := fun w' => w'.cell? ⟨gb230, 0, none⟩ = some (.int .u32 a0_0) ∧ w'.cell? ⟨gb230, 1, none⟩ = some (.int .i64 a0_1) ∧ w'.cell? ⟨gb231, 0, none⟩ = some (.int .u32 a1_0) ∧ w'.cell? ⟨gb231, 1, none⟩ = some (.int .i64 a1_1)) (ds := []) (ba 21 0) qg3m rfl rfl ⟨(blk_cell BK230.out 0).trans rfl, (blk_cell BK230.out 1).trans rfl, (blk_cell BK231.out 0).trans rfl, (blk_cell BK231.out 1).trans rfl⟩ (fun hHeld => ?_); refine with_tabW gangwayref02_Near.tab1 gangwayref02_Near.bits1 (fun HT_ HW_ => ?_)
    generalize w11.drew = w12 at BK230 BK231 HB hHeld ⊢
    refine tk_15c (i := 0) (N := some 5) (ba 21 1) hHeld ?_
    refine one_ (i := 1) (N := some 6) (ba 21 3) rfl rfl (one_of HT_.out qg3m) qomw (fun K hK => ?_)
    refine goes_ Tryz.func23 qg3m rfl #[.agg #[.int .u32 a0_0, .int .i64 a0_1]] qlo1 rfl rfl qraq ?_
    with_reducible refine (gangwayref02_Net.calls k a0_0 a0_1 true _ A3.out).mono ?_
    rintro e w13 ⟨rfl, hb⟩
    refine ⟨_, rfl, ?_⟩
    replace BK230 := Aside0.mk (blk_below (g := gb230) (o := .cells #[.int .u32 a0_0, .int .i64 a0_1] 34 (0, 0)) qr64 hb)
    replace BK231 := Aside0.mk (blk_below (g := gb231) (o := .cells #[.int .u32 a1_0, .int .i64 a1_1] 34 (0, 0)) qxc2 hb)
    replace HB := Aside0.mk (below_step qtmc hb)
    (try clear hb)
    (try clear hb2)
    (try clear hk)
    (try clear hi)
    refine hK.out _ _ qq3y (fun hHeld => ?_)
    clear hK K
    refine norm_ (a' := ?_) ?_ ?_
    rotate_left
    ·exact z29_1
    refine pu_139 (i := 2) (N := some 7) (ba 21 7) ?_
    refine tk_15c (i := 3) (N := some 8) (ba 21 15) hHeld ?_
    refine one_ (i := 4) (N := some 9) (ba 21 31) rfl rfl (one_of HT_.out qg3m) qomw (fun K hK => ?_)
    refine goes_ Tryz.func23 qg3m rfl #[.agg #[.int .u32 a1_0, .int .i64 a1_1]] qlo1 rfl rfl qraq ?_
    with_reducible refine (gangwayref02_Net.calls k a1_0 a1_1 true _ A5.out).mono ?_
    rintro e w14 ⟨rfl, hb⟩
    refine ⟨_, rfl, ?_⟩
    replace BK230 := Aside0.mk (blk_below (g := gb230) (o := .cells #[.int .u32 a0_0, .int .i64 a0_1] 34 (0, 0)) qr64 hb)
    replace BK231 := Aside0.mk (blk_below (g := gb231) (o := .cells #[.int .u32 a1_0, .int .i64 a1_1] 34 (0, 0)) qxc2 hb)
    replace HB := Aside0.mk (below_step qtmc hb)
    (try clear hb)
    (try clear hb2)
    (try clear hk)
    (try clear hi)
    refine hK.out _ _ qq3y (fun hHeld => ?_)
    clear hK K
    refine norm_ (a' := ?_) ?_ ?_
    rotate_left
    ·exact z29_2
    refine pu_139 (i := 5) (N := some 10) (ba 21 63) ?_
    refine pu_139 (i := 6) (N := some 11) (ba 21 127) ?_
    refine pu_139 (i := 7) (N := some 12) (ba 21 255) ?_
    refine pu_139 (i := 9) (N := some 14) (ba 21 767) ?_
    refine tk_15c (i := 8) (N := some 13) (ba 21 1023) hHeld ?_
    refine tk_15c (i := 10) (N := some 15) (ba 21 2047) hHeld ?_
    refine pu_139 (i := 11) (N := some 16) (ba 21 4095) ?_
    refine pu_139 (i := 12) (N := some 17) (ba 21 8191) ?_
    refine pu_139 (i := 13) (N := some 18) (ba 21 16383) ?_
    refine tk_15c (i := 14) (N := some 19) (ba 21 32767) hHeld ?_
    refine tk_15c (i := 16) (N := some 21) (ba 21 98303) hHeld ?_
    refine one_ (i := 15) (N := some 20) (ba 21 131071) rfl rfl (one_of HT_.out qg3m) qomw (fun K hK => ?_)
    refine goes_ Tryz.func27 qg3m rfl #[.agg #[.int .u32 a0_0, .int .i64 a0_1]] qlo1 rfl rfl qraq ?_
    with_reducible refine (gangwayref02_Last.calls k a0_0 a0_1 t234 _ A8.out).mono ?_
    rintro e w15 ⟨rfl, hb⟩
    refine ⟨_, rfl, ?_⟩
    replace BK230 := Aside0.mk (blk_below (g := gb230) (o := .cells #[.int .u32 a0_0, .int .i64 a0_1] 34 (0, 0)) qr64 hb)
    replace BK231 := Aside0.mk (blk_below (g := gb231) (o := .cells #[.int .u32 a1_0, .int .i64 a1_1] 34 (0, 0)) qxc2 hb)
    replace HB := Aside0.mk (below_step qtmc hb)
    (try clear hb)
    (try clear hb2)
    (try clear hk)
    (try clear hi)
    refine hK.out _ _ qq3y (fun hHeld => ?_)
    clear hK K
    refine norm_ (a' := ?_) ?_ ?_
    rotate_left
    ·show Act.put _ (some 20) _ = _
     simp only [Act.put, List.setIfInBounds_toArray, List.set_cons_zero, List.set_cons_succ, i64_w, i32_w]
     rfl
    refine one_ (i := 17) (N := some 22) (ba 21 262143) rfl rfl (one_of HT_.out qg3m) qomw (fun K hK => ?_)
    refine goes_ Tryz.func27 qg3m rfl #[.agg #[.int .u32 a1_0, .int .i64 a1_1]] qlo1 rfl rfl qraq ?_
    with_reducible refine (gangwayref02_Last.calls k a1_0 a1_1 t235 _ A9.out).mono ?_
    rintro e w16 ⟨rfl, hb⟩
    refine ⟨_, rfl, ?_⟩
    replace BK230 := Aside0.mk (blk_below (g := gb230) (o := .cells #[.int .u32 a0_0, .int .i64 a0_1] 34 (0, 0)) qr64 hb)
    replace BK231 := Aside0.mk (blk_below (g := gb231) (o := .cells #[.int .u32 a1_0, .int .i64 a1_1] 34 (0, 0)) qxc2 hb)
    replace HB := Aside0.mk (below_step qtmc hb)
    (try clear hb)
    (try clear hb2)
    (try clear hk)
    (try clear hi)
    refine hK.out _ _ qq3y (fun hHeld => ?_)
    clear hK K
    refine norm_ (a' := ?_) ?_ ?_
    rotate_left
    ·show Act.put _ (some 22) _ = _
     simp only [Act.put, List.setIfInBounds_toArray, List.set_cons_zero, List.set_cons_succ, i64_w, i32_w]
     rfl
    refine pu_139 (i := 18) (N := some 23) (ba 21 524287) ?_
    refine pu_139 (i := 19) (N := some 24) (ba 21 1048575) ?_
    refine pu_139 (i := 20) (N := some 4) (ba 21 2097151) ?_
    refine done_ (done_of HT_.out qg3m) ?_
    try go_wp2
    go_ret
    exact ⟨qxu5, qtmc⟩
   ·rw [if_neg c7] at H
    have c7b0 : decide (a1_0 ≤ a0_0) = false := decide_eq_false c7
    clear c7
    obtain rfl := Option.some.inj H
    go_enter Tryz.func29, Tryz.ntmps29
    try go_wp2_with (first | ((with_reducible refine gate_dst (N := 2) rfl ?_); refine box_event qgcr (N := 2) qgcr (cs := #[.int .u32 a0_0, .int .i64 a0_1]) (t := 34) qlto ?_; intro gb230 hg w17 hbox hb; have BK230 := Aside0.mk (hbox); have GE230 := Aside0.mk ((qisx : w.heap.size ≤ gb230)); replace HB := Aside0.mk (below_step qpag hb); clear hb hbox hg) | ((with_reducible refine gate_dst (N := 3) rfl ?_); refine box_event qgcr (N := 3) qgcr (cs := #[.int .u32 a1_0, .int .i64 a1_1]) (t := 34) qlto ?_; intro gb231 hg w18 hbox hb; have BK231 := Aside0.mk (hbox); have GE231 := Aside0.mk ((by rw [hg]; exact (below_size qquw) : w.heap.size ≤ gb231)); have NB230_231 := Aside0.mk ((qjfy : gb230 ≠ gb231)); have NB231_230 := Aside0.mk ((qz3d : gb231 ≠ gb230)); replace BK230 := Aside0.mk (blk_below (g := gb230) qr64 hb); replace HB := Aside0.mk (below_step qquw hb); have hcy1_230_0 := (show World.cell? _ ⟨gb230, 0, none⟩ = some (.int .u32 a0_0) from (blk_cell BK230.out 0).trans rfl); have hcy1_230_1 := (show World.cell? _ ⟨gb230, 1, none⟩ = some (.int .i64 a0_1) from (blk_cell BK230.out 1).trans rfl); clear hb hbox hg))
    replace BK230 := Aside0.mk (blk_drew BK230.out)
    replace BK231 := Aside0.mk (blk_drew BK231.out)
    replace HB := Aside0.mk (below_drew1 HB.out)
    refine start_ (n := 21) (S := fun w' => w'.cell? ⟨gb230, 0, none⟩ = some (.int .u32 a0_0) ∧ w'.cell? ⟨gb230, 1, none⟩ = some (.int .i64 a0_1) ∧ w'.cell? ⟨gb231, 0, none⟩ = some (.int .u32 a1_0) ∧ w'.cell? ⟨gb231, 1, none⟩ = some (.int .i64 a1_1)) (ds := []) (ba 21 0) qg3m rfl rfl ⟨(blk_cell BK230.out 0).trans rfl, (blk_cell BK230.out 1).trans rfl, (blk_cell BK231.out 0).trans rfl, (blk_cell BK231.out 1).trans rfl⟩ (fun hHeld => ?_); refine with_tabW gangwayref02_Near.tab1 gangwayref02_Near.bits1 (fun HT_ HW_ => ?_)
    generalize w18.drew = w19 at BK230 BK231 HB hHeld ⊢
    refine tk_15c (i := 0) (N := some 5) (ba 21 1) hHeld ?_
    refine one_ (i := 1) (N := some 6) (ba 21 3) rfl rfl (one_of HT_.out qg3m) qomw (fun K hK => ?_)
    refine goes_ Tryz.func23 qg3m rfl #[.agg #[.int .u32 a0_0, .int .i64 a0_1]] qlo1 rfl rfl qraq ?_
    with_reducible refine (gangwayref02_Net.calls k a0_0 a0_1 true _ A3.out).mono ?_
    rintro e w20 ⟨rfl, hb⟩
    refine ⟨_, rfl, ?_⟩
    replace BK230 := Aside0.mk (blk_below (g := gb230) (o := .cells #[.int .u32 a0_0, .int .i64 a0_1] 34 (0, 0)) qr64 hb)
    replace BK231 := Aside0.mk (blk_below (g := gb231) (o := .cells #[.int .u32 a1_0, .int .i64 a1_1] 34 (0, 0)) qxc2 hb)
    replace HB := Aside0.mk (below_step qtmc hb)
    (try clear hb)
    (try clear hb2)
    (try clear hk)
    (try clear hi)
    refine hK.out _ _ qq3y (fun hHeld => ?_)
    clear hK K
    refine norm_ (a' := ?_) ?_ ?_
    rotate_left
    ·exact z29_1
    refine pu_139 (i := 2) (N := some 7) (ba 21 7) ?_
    refine tk_15c (i := 3) (N := some 8) (ba 21 15) hHeld ?_
    refine one_ (i := 4) (N := some 9) (ba 21 31) rfl rfl (one_of HT_.out qg3m) qomw (fun K hK => ?_)
    refine goes_ Tryz.func23 qg3m rfl #[.agg #[.int .u32 a1_0, .int .i64 a1_1]] qlo1 rfl rfl qraq ?_
    with_reducible refine (gangwayref02_Net.calls k a1_0 a1_1 true _ A5.out).mono ?_
    rintro e w21 ⟨rfl, hb⟩
    refine ⟨_, rfl, ?_⟩
    replace BK230 := Aside0.mk (blk_below (g := gb230) (o := .cells #[.int .u32 a0_0, .int .i64 a0_1] 34 (0, 0)) qr64 hb)
    replace BK231 := Aside0.mk (blk_below (g := gb231) (o := .cells #[.int .u32 a1_0, .int .i64 a1_1] 34 (0, 0)) qxc2 hb)
    replace HB := Aside0.mk (below_step qtmc hb)
    (try clear hb)
    (try clear hb2)
    (try clear hk)
    (try clear hi)
    refine hK.out _ _ qq3y (fun hHeld => ?_)
    clear hK K
    refine norm_ (a' := ?_) ?_ ?_
    rotate_left
    ·exact z29_2
    refine pu_139 (i := 5) (N := some 10) (ba 21 63) ?_
    refine pu_139 (i := 6) (N := some 11) (ba 21 127) ?_
    refine pu_139 (i := 7) (N := some 12) (ba 21 255) ?_
    refine pu_139 (i := 9) (N := some 14) (ba 21 767) ?_
    refine tk_15c (i := 8) (N := some 13) (ba 21 1023) hHeld ?_
    refine tk_15c (i := 10) (N := some 15) (ba 21 2047) hHeld ?_
    refine pu_139 (i := 11) (N := some 16) (ba 21 4095) ?_
    refine pu_139 (i := 12) (N := some 17) (ba 21 8191) ?_
    refine pu_139 (i := 13) (N := some 18) (ba 21 16383) ?_
    refine pure_ (i := 14) (N := some 19) (v := undef) (a' := ?_) (ba 21 32767) rfl rfl (any_of HT_.out qg3m) (fun _ _ _ h => h) (Or.inr ⟨quos, rfl⟩) ?_ ?_
    rotate_left
    ·exact z29_0
    refine pure_ (i := 15) (N := some 20) (v := undef) (a' := ?_) (ba 21 65535) rfl rfl (any_of HT_.out qg3m) (fun _ _ _ h => h) (Or.inr ⟨quos, rfl⟩) ?_ ?_
    rotate_left
    ·exact z29_0
    refine pure_ (i := 16) (N := some 21) (v := undef) (a' := ?_) (ba 21 131071) rfl rfl (any_of HT_.out qg3m) (fun _ _ _ h => h) (Or.inr ⟨quos, rfl⟩) ?_ ?_
    rotate_left
    ·exact z29_0
    refine pure_ (i := 17) (N := some 22) (v := undef) (a' := ?_) (ba 21 262143) rfl rfl (any_of HT_.out qg3m) (fun _ _ _ h => h) (Or.inr ⟨quos, rfl⟩) ?_ ?_
    rotate_left
    ·exact z29_0
    refine pure_ (i := 18) (N := some 23) (v := undef) (a' := ?_) (ba 21 524287) rfl rfl (any_of HT_.out qg3m) (fun _ _ _ h => h) (Or.inr ⟨quos, rfl⟩) ?_ ?_
    rotate_left
    ·exact z29_0
    refine pu_139 (i := 19) (N := some 24) (ba 21 1048575) ?_
    refine pu_139 (i := 20) (N := some 4) (ba 21 2097151) ?_
    refine done_ (done_of HT_.out qg3m) ?_
    try go_wp2
    go_ret
    exact ⟨qxu5, qtmc⟩
  ·replace c6 := Bool.eq_false_iff.mpr c6
   subst c6
   rw [if_neg (show ¬ (false = true) by decide)] at H
   obtain rfl := Option.some.inj H
   go_enter Tryz.func29, Tryz.ntmps29
   try go_wp2_with (first | ((with_reducible refine gate_dst (N := 2) rfl ?_); refine box_event qgcr (N := 2) qgcr (cs := #[.int .u32 a0_0, .int .i64 a0_1]) (t := 34) qlto ?_; intro gb230 hg w22 hbox hb; have BK230 := Aside0.mk (hbox); have GE230 := Aside0.mk ((qisx : w.heap.size ≤ gb230)); replace HB := Aside0.mk (below_step qpag hb); clear hb hbox hg) | ((with_reducible refine gate_dst (N := 3) rfl ?_); refine box_event qgcr (N := 3) qgcr (cs := #[.int .u32 a1_0, .int .i64 a1_1]) (t := 34) qlto ?_; intro gb231 hg w23 hbox hb; have BK231 := Aside0.mk (hbox); have GE231 := Aside0.mk ((by rw [hg]; exact (below_size qquw) : w.heap.size ≤ gb231)); have NB230_231 := Aside0.mk ((qjfy : gb230 ≠ gb231)); have NB231_230 := Aside0.mk ((qz3d : gb231 ≠ gb230)); replace BK230 := Aside0.mk (blk_below (g := gb230) qr64 hb); replace HB := Aside0.mk (below_step qquw hb); have hcy1_230_0 := (show World.cell? _ ⟨gb230, 0, none⟩ = some (.int .u32 a0_0) from (blk_cell BK230.out 0).trans rfl); have hcy1_230_1 := (show World.cell? _ ⟨gb230, 1, none⟩ = some (.int .i64 a0_1) from (blk_cell BK230.out 1).trans rfl); clear hb hbox hg))
   replace BK230 := Aside0.mk (blk_drew BK230.out)
   replace BK231 := Aside0.mk (blk_drew BK231.out)
   replace HB := Aside0.mk (below_drew1 HB.out)
   refine start_ (n := 21) (S := fun w' => w'.cell? ⟨gb230, 0, none⟩ = some (.int .u32 a0_0) ∧ w'.cell? ⟨gb230, 1, none⟩ = some (.int .i64 a0_1) ∧ w'.cell? ⟨gb231, 0, none⟩ = some (.int .u32 a1_0) ∧ w'.cell? ⟨gb231, 1, none⟩ = some (.int .i64 a1_1)) (ds := []) (ba 21 0) qg3m rfl rfl ⟨(blk_cell BK230.out 0).trans rfl, (blk_cell BK230.out 1).trans rfl, (blk_cell BK231.out 0).trans rfl, (blk_cell BK231.out 1).trans rfl⟩ (fun hHeld => ?_); refine with_tabW gangwayref02_Near.tab1 gangwayref02_Near.bits1 (fun HT_ HW_ => ?_)
   generalize w23.drew = w24 at BK230 BK231 HB hHeld ⊢
   refine tk_15c (i := 0) (N := some 5) (ba 21 1) hHeld ?_
   refine one_ (i := 1) (N := some 6) (ba 21 3) rfl rfl (one_of HT_.out qg3m) qomw (fun K hK => ?_)
   refine goes_ Tryz.func23 qg3m rfl #[.agg #[.int .u32 a0_0, .int .i64 a0_1]] qlo1 rfl rfl qraq ?_
   with_reducible refine (gangwayref02_Net.calls k a0_0 a0_1 true _ A3.out).mono ?_
   rintro e w25 ⟨rfl, hb⟩
   refine ⟨_, rfl, ?_⟩
   replace BK230 := Aside0.mk (blk_below (g := gb230) (o := .cells #[.int .u32 a0_0, .int .i64 a0_1] 34 (0, 0)) qr64 hb)
   replace BK231 := Aside0.mk (blk_below (g := gb231) (o := .cells #[.int .u32 a1_0, .int .i64 a1_1] 34 (0, 0)) qxc2 hb)
   replace HB := Aside0.mk (below_step qtmc hb)
   (try clear hb)
   (try clear hb2)
   (try clear hk)
   (try clear hi)
   refine hK.out _ _ qq3y (fun hHeld => ?_)
   clear hK K
   refine norm_ (a' := ?_) ?_ ?_
   rotate_left
   ·exact z29_1
   refine pu_139 (i := 2) (N := some 7) (ba 21 7) ?_
   refine tk_15c (i := 3) (N := some 8) (ba 21 15) hHeld ?_
   refine one_ (i := 4) (N := some 9) (ba 21 31) rfl rfl (one_of HT_.out qg3m) qomw (fun K hK => ?_)
   refine goes_ Tryz.func23 qg3m rfl #[.agg #[.int .u32 a1_0, .int .i64 a1_1]] qlo1 rfl rfl qraq ?_
   with_reducible refine (gangwayref02_Net.calls k a1_0 a1_1 false _ A5.out).mono ?_
   rintro e w26 ⟨rfl, hb⟩
   refine ⟨_, rfl, ?_⟩
   replace BK230 := Aside0.mk (blk_below (g := gb230) (o := .cells #[.int .u32 a0_0, .int .i64 a0_1] 34 (0, 0)) qr64 hb)
   replace BK231 := Aside0.mk (blk_below (g := gb231) (o := .cells #[.int .u32 a1_0, .int .i64 a1_1] 34 (0, 0)) qxc2 hb)
   replace HB := Aside0.mk (below_step qtmc hb)
   (try clear hb)
   (try clear hb2)
   (try clear hk)
   (try clear hi)
   refine hK.out _ _ qq3y (fun hHeld => ?_)
   clear hK K
   refine norm_ (a' := ?_) ?_ ?_
   rotate_left
   ·exact z29_2
   refine pu_139 (i := 5) (N := some 10) (ba 21 63) ?_
   refine pu_139 (i := 6) (N := some 11) (ba 21 127) ?_
   refine pure_ (i := 7) (N := some 12) (v := undef) (a' := ?_) (ba 21 255) rfl rfl (any_of HT_.out qg3m) (fun _ _ _ h => h) (Or.inr ⟨quos, rfl⟩) ?_ ?_
   rotate_left
   ·exact z29_0
   refine pure_ (i := 8) (N := some 13) (v := undef) (a' := ?_) (ba 21 511) rfl rfl (any_of HT_.out qg3m) (fun _ _ _ h => h) (Or.inr ⟨quos, rfl⟩) ?_ ?_
   rotate_left
   ·exact z29_0
   refine pure_ (i := 9) (N := some 14) (v := undef) (a' := ?_) (ba 21 1023) rfl rfl (any_of HT_.out qg3m) (fun _ _ _ h => h) (Or.inr ⟨quos, rfl⟩) ?_ ?_
   rotate_left
   ·exact z29_0
   refine pure_ (i := 10) (N := some 15) (v := undef) (a' := ?_) (ba 21 2047) rfl rfl (any_of HT_.out qg3m) (fun _ _ _ h => h) (Or.inr ⟨quos, rfl⟩) ?_ ?_
   rotate_left
   ·exact z29_0
   refine pure_ (i := 11) (N := some 16) (v := undef) (a' := ?_) (ba 21 4095) rfl rfl (any_of HT_.out qg3m) (fun _ _ _ h => h) (Or.inr ⟨quos, rfl⟩) ?_ ?_
   rotate_left
   ·exact z29_0
   refine pu_139 (i := 12) (N := some 17) (ba 21 8191) ?_
   refine pu_139 (i := 13) (N := some 18) (ba 21 16383) ?_
   refine pure_ (i := 14) (N := some 19) (v := undef) (a' := ?_) (ba 21 32767) rfl rfl (any_of HT_.out qg3m) (fun _ _ _ h => h) (Or.inr ⟨quos, rfl⟩) ?_ ?_
   rotate_left
   ·exact z29_0
   refine pure_ (i := 15) (N := some 20) (v := undef) (a' := ?_) (ba 21 65535) rfl rfl (any_of HT_.out qg3m) (fun _ _ _ h => h) (Or.inr ⟨quos, rfl⟩) ?_ ?_
   rotate_left
   ·exact z29_0
   refine pure_ (i := 16) (N := some 21) (v := undef) (a' := ?_) (ba 21 131071) rfl rfl (any_of HT_.out qg3m) (fun _ _ _ h => h) (Or.inr ⟨quos, rfl⟩) ?_ ?_
   rotate_left
   ·exact z29_0
   refine pure_ (i := 17) (N := some 22) (v := undef) (a' := ?_) (ba 21 262143) rfl rfl (any_of HT_.out qg3m) (fun _ _ _ h => h) (Or.inr ⟨quos, rfl⟩) ?_ ?_
   rotate_left
   ·exact z29_0
   refine pure_ (i := 18) (N := some 23) (v := undef) (a' := ?_) (ba 21 524287) rfl rfl (any_of HT_.out qg3m) (fun _ _ _ h => h) (Or.inr ⟨quos, rfl⟩) ?_ ?_
   rotate_left
   ·exact z29_0
   refine pu_139 (i := 19) (N := some 24) (ba 21 1048575) ?_
   refine pu_139 (i := 20) (N := some 4) (ba 21 2097151) ?_
   refine done_ (done_of HT_.out qg3m) ?_
   try go_wp2
   go_ret
   exact ⟨qxu5, qtmc⟩
 ·replace c4 := Bool.eq_false_iff.mpr c4
  subst c4
  rw [if_neg (show ¬ (false = true) by decide)] at H
  obtain rfl := Option.some.inj H
  go_enter Tryz.func29, Tryz.ntmps29
  try go_wp2_with (first | ((with_reducible refine gate_dst (N := 2) rfl ?_); refine box_event qgcr (N := 2) qgcr (cs := #[.int .u32 a0_0, .int .i64 a0_1]) (t := 34) qlto ?_; intro gb230 hg w27 hbox hb; have BK230 := Aside0.mk (hbox); have GE230 := Aside0.mk ((qisx : w.heap.size ≤ gb230)); replace HB := Aside0.mk (below_step qpag hb); clear hb hbox hg) | ((with_reducible refine gate_dst (N := 3) rfl ?_); refine box_event qgcr (N := 3) qgcr (cs := #[.int .u32 a1_0, .int .i64 a1_1]) (t := 34) qlto ?_; intro gb231 hg w28 hbox hb; have BK231 := Aside0.mk (hbox); have GE231 := Aside0.mk ((by rw [hg]; exact (below_size qquw) : w.heap.size ≤ gb231)); have NB230_231 := Aside0.mk ((qjfy : gb230 ≠ gb231)); have NB231_230 := Aside0.mk ((qz3d : gb231 ≠ gb230)); replace BK230 := Aside0.mk (blk_below (g := gb230) qr64 hb); replace HB := Aside0.mk (below_step qquw hb); have hcy1_230_0 := (show World.cell? _ ⟨gb230, 0, none⟩ = some (.int .u32 a0_0) from (blk_cell BK230.out 0).trans rfl); have hcy1_230_1 := (show World.cell? _ ⟨gb230, 1, none⟩ = some (.int .i64 a0_1) from (blk_cell BK230.out 1).trans rfl); clear hb hbox hg))
  replace BK230 := Aside0.mk (blk_drew BK230.out)
  replace BK231 := Aside0.mk (blk_drew BK231.out)
  replace HB := Aside0.mk (below_drew1 HB.out)
  refine start_ (n := 21) (S := fun w' => w'.cell? ⟨gb230, 0, none⟩ = some (.int .u32 a0_0) ∧ w'.cell? ⟨gb230, 1, none⟩ = some (.int .i64 a0_1)) (ds := []) (ba 21 0) qg3m rfl rfl ⟨(blk_cell BK230.out 0).trans rfl, (blk_cell BK230.out 1).trans rfl⟩ (fun hHeld => ?_); refine with_tabW gangwayref02_Near.tab1 gangwayref02_Near.bits1 (fun HT_ HW_ => ?_)
  generalize w28.drew = w29 at BK230 BK231 HB hHeld ⊢
  refine tk_ca0 (i := 0) (N := some 5) (ba 21 1) hHeld ?_
  refine one_ (i := 1) (N := some 6) (ba 21 3) rfl rfl (one_of HT_.out qg3m) qomw (fun K hK => ?_)
  refine goes_ Tryz.func23 qg3m rfl #[.agg #[.int .u32 a0_0, .int .i64 a0_1]] qlo1 rfl rfl qraq ?_
  with_reducible refine (gangwayref02_Net.calls k a0_0 a0_1 false _ A3.out).mono ?_
  rintro e w30 ⟨rfl, hb⟩
  refine ⟨_, rfl, ?_⟩
  replace BK230 := Aside0.mk (blk_below (g := gb230) (o := .cells #[.int .u32 a0_0, .int .i64 a0_1] 34 (0, 0)) qr64 hb)
  replace BK231 := Aside0.mk (blk_below (g := gb231) (o := .cells #[.int .u32 a1_0, .int .i64 a1_1] 34 (0, 0)) qxc2 hb)
  replace HB := Aside0.mk (below_step qtmc hb)
  (try clear hb)
  (try clear hb2)
  (try clear hk)
  (try clear hi)
  refine hK.out _ _ (by exact ⟨(blk_cell BK230.out 0).trans rfl, (blk_cell BK230.out 1).trans rfl⟩) (fun hHeld => ?_)
  clear hK K
  refine norm_ (a' := ?_) ?_ ?_
  rotate_left
  ·exact z29_1
  refine pu_139 (i := 2) (N := some 7) (ba 21 7) ?_
  refine pure_ (i := 3) (N := some 8) (v := undef) (a' := ?_) (ba 21 15) rfl rfl (any_of HT_.out qg3m) (fun _ _ _ h => h) (Or.inr ⟨quos, rfl⟩) ?_ ?_
  rotate_left
  ·exact z29_0
  refine pure_ (i := 4) (N := some 9) (v := undef) (a' := ?_) (ba 21 31) rfl rfl (any_of HT_.out qg3m) (fun _ _ _ h => h) (Or.inr ⟨quos, rfl⟩) ?_ ?_
  rotate_left
  ·exact z29_0
  refine pu_139 (i := 5) (N := some 10) (ba 21 63) ?_
  refine pu_139 (i := 6) (N := some 11) (ba 21 127) ?_
  refine pure_ (i := 7) (N := some 12) (v := undef) (a' := ?_) (ba 21 255) rfl rfl (any_of HT_.out qg3m) (fun _ _ _ h => h) (Or.inr ⟨quos, rfl⟩) ?_ ?_
  rotate_left
  ·exact z29_0
  refine pure_ (i := 8) (N := some 13) (v := undef) (a' := ?_) (ba 21 511) rfl rfl (any_of HT_.out qg3m) (fun _ _ _ h => h) (Or.inr ⟨quos, rfl⟩) ?_ ?_
  rotate_left
  ·exact z29_0
  refine pure_ (i := 9) (N := some 14) (v := undef) (a' := ?_) (ba 21 1023) rfl rfl (any_of HT_.out qg3m) (fun _ _ _ h => h) (Or.inr ⟨quos, rfl⟩) ?_ ?_
  rotate_left
  ·exact z29_0
  refine pure_ (i := 10) (N := some 15) (v := undef) (a' := ?_) (ba 21 2047) rfl rfl (any_of HT_.out qg3m) (fun _ _ _ h => h) (Or.inr ⟨quos, rfl⟩) ?_ ?_
  rotate_left
  ·exact z29_0
  refine pure_ (i := 11) (N := some 16) (v := undef) (a' := ?_) (ba 21 4095) rfl rfl (any_of HT_.out qg3m) (fun _ _ _ h => h) (Or.inr ⟨quos, rfl⟩) ?_ ?_
  rotate_left
  ·exact z29_0
  refine pu_139 (i := 12) (N := some 17) (ba 21 8191) ?_
  refine pu_139 (i := 13) (N := some 18) (ba 21 16383) ?_
  refine pure_ (i := 14) (N := some 19) (v := undef) (a' := ?_) (ba 21 32767) rfl rfl (any_of HT_.out qg3m) (fun _ _ _ h => h) (Or.inr ⟨quos, rfl⟩) ?_ ?_
  rotate_left
  ·exact z29_0
  refine pure_ (i := 15) (N := some 20) (v := undef) (a' := ?_) (ba 21 65535) rfl rfl (any_of HT_.out qg3m) (fun _ _ _ h => h) (Or.inr ⟨quos, rfl⟩) ?_ ?_
  rotate_left
  ·exact z29_0
  refine pure_ (i := 16) (N := some 21) (v := undef) (a' := ?_) (ba 21 131071) rfl rfl (any_of HT_.out qg3m) (fun _ _ _ h => h) (Or.inr ⟨quos, rfl⟩) ?_ ?_
  rotate_left
  ·exact z29_0
  refine pure_ (i := 17) (N := some 22) (v := undef) (a' := ?_) (ba 21 262143) rfl rfl (any_of HT_.out qg3m) (fun _ _ _ h => h) (Or.inr ⟨quos, rfl⟩) ?_ ?_
  rotate_left
  ·exact z29_0
  refine pure_ (i := 18) (N := some 23) (v := undef) (a' := ?_) (ba 21 524287) rfl rfl (any_of HT_.out qg3m) (fun _ _ _ h => h) (Or.inr ⟨quos, rfl⟩) ?_ ?_
  rotate_left
  ·exact z29_0
  refine pu_139 (i := 19) (N := some 24) (ba 21 1048575) ?_
  refine pu_139 (i := 20) (N := some 4) (ba 21 2097151) ?_
  refine done_ (done_of HT_.out qg3m) ?_
  try go_wp2
  go_ret
  exact ⟨qxu5, qtmc⟩
end Go.Proofs.YtgdjekigkimhnaaGreatDoor.P
