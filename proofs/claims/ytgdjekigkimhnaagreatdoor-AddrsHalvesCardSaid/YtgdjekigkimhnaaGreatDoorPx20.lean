-- slim
-- Written by wip/hprint.py (this session's program) through the kit's print program; hand contracts are marked 'by hand'.
import Derived.Test.YtgdjekigkimhnaaGreatDoorAbb
import Derived.Test.YtgdjekigkimhnaaGreatDoorPx0
import Derived.Test.YtgdjekigkimhnaaGreatDoorPx17
import Derived.Test.YtgdjekigkimhnaaGreatDoorPx18
import Derived.Test.YtgdjekigkimhnaaGreatDoorPx19
namespace Go.Proofs.YtgdjekigkimhnaaGreatDoor.P
open Go.RowKit Go.Proofs.YtgdjekigkimhnaaGreatDoorW.PrintWords Go.Proofs.YtgdjekigkimhnaaGreatDoorW.PrintLast Go.Proofs.YtgdjekigkimhnaaGreatDoorW.PrintMore
attribute [local go_sem] max2_int min2_int max_two min_two max_three min_three max_four min_four   -- for this text's walks alone
set_option linter.unusedVariables false
set_option linter.unusedSimpArgs false

theorem qece {p : Prop} (h : p := by (with_reducible repeat (first | refine blk_drewN ?_ _ | refine blk_drew ?_ | refine blk_alloc ?_ _)); exact BK166.out) : p := h
theorem q9lw {p : Prop} (h : p := by (with_reducible repeat (first | refine blk_drewN ?_ _ | refine blk_drew ?_ | refine blk_alloc ?_ _)); exact BK167.out) : p := h
theorem qd6l {p : Prop} (h : p := by exact ⟨(blk_cell BK166.out 0).trans rfl, (blk_cell BK166.out 1).trans rfl, (blk_cell BK167.out 0).trans rfl, (blk_cell BK167.out 1).trans rfl⟩) : p := h
theorem q9ii {p : Prop} (h : p := by repeat (first | (with_reducible first | exact HB.out | apply below_alloc | apply pw_below_drewN | apply below_drew1 | refine below_set ?_ GE166.out) | exact HB.out)) : p := h
theorem q9fv {p : Prop} (h : p := by repeat (first | (with_reducible first | exact HB.out | apply below_alloc | apply pw_below_drewN | apply below_drew1 | refine below_set ?_ GE166.out | refine below_set ?_ GE167.out) | exact HB.out)) : p := h
/-! ### addrs_Near: function 28 -/
def addrs_Near.f (k : Nat) (a0_0 : Int) (a0_1 : Int) (a1_0 : Int) (a1_1 : Int) : Option (Bool) := (addrs_Net.f k a0_0 a0_1).bind fun t168 => (if t168 = true then ((addrs_In.f k a1_0 a1_1 a0_0).bind fun t169 => (if t169 = true then ((addrs_Last.f k a0_0 a0_1).bind fun t170 => ((addrs_In.f k a1_0 a1_1 t170).bind fun t171 => (some t171))) else (some false))) else (some false))
theorem addrs_Near.mono : ∀ a0 a1 a2 a3 k, LeO (addrs_Near.f k a0 a1 a2 a3) (addrs_Near.f (k + 1) a0 a1 a2 a3) := by
 intro a0 a1 a2 a3 k
 unfold addrs_Near.f
 repeat' first
   | (with_reducible exact addrs_In.mono _ _ _ _)
   | (with_reducible exact addrs_Last.mono _ _ _)
   | (with_reducible exact addrs_Net.mono _ _ _)
   | (with_reducible exact LeO.refl _)
   | (with_reducible exact LeO.none _)
   | (with_reducible refine LeO.ite ?_ ?_)
   | (with_reducible refine LeO.bind ?_ (fun _ => ?_))
   | exact addrs_In.mono _ _ _ _
   | exact addrs_Last.mono _ _ _
   | exact addrs_Net.mono _ _ _
   | exact LeO.none _
   | refine LeO.ite ?_ ?_
   | refine LeO.bind ?_ (fun _ => ?_)
def addrs_Near.T1 : Bool × List (List Nat × List Nat) := (true, [([], []), ([0], [0]), ([1, 1], [1]), ([2], [2]), ([2], [2]), ([4, 2], [2, 4]), ([3, 5, 2, 2], [2, 3, 5]), ([2, 6], [2, 6]), ([7, 6], [7]), ([8], [8]), ([8], [8]), ([10, 8, 8], [8, 10]), ([9, 11, 11, 8], [8, 9, 11]), ([8, 12], [8, 12]), ([13, 12, 0, 1, 2, 3, 4, 5, 6, 7, 8, 9, 10, 11, 12, 13], [13])])
def addrs_Near.B1 : List Nat := [0, 1, 3, 7, 7, 23, 63, 127, 255, 511, 511, 1535, 4095, 8191, 16383]
theorem addrs_Near.tab1 : rtab .any (opsOf Tryz.f28 1) = addrs_Near.T1 := by kernel_rfl
theorem addrs_Near.bits1 : waitsOk addrs_Near.T1.2 addrs_Near.B1 = true := by kernel_rfl
theorem z20_0 {p : Prop} (h : p := by
 simp only [Act.put, List.setIfInBounds_toArray, List.set_cons_zero, List.set_cons_succ, i64_w, i32_w]
 rfl) : p := h
theorem z20_1 {p : Prop} (h : p := by
 show Act.put _ (some 6) _ = _
 simp only [Act.put, List.setIfInBounds_toArray, List.set_cons_zero, List.set_cons_succ, i64_w, i32_w]
 rfl) : p := h
theorem z20_2 {p : Prop} (h : p := by
 show Act.put _ (some 11) _ = _
 simp only [Act.put, List.setIfInBounds_toArray, List.set_cons_zero, List.set_cons_succ, i64_w, i32_w]
 rfl) : p := h
set_option maxHeartbeats 8000000 in
set_option maxRecDepth 100000 in
theorem addrs_Near.calls (k : Nat) (a0_0 : Int) (a0_1 : Int) (a1_0 : Int) (a1_1 : Int) (r : Bool) (w : World) (h : addrs_Near.f k a0_0 a0_1 a1_0 a1_1 = some r) :
  Calls Tryz.prog 28 #[.agg #[.int .u32 a0_0, .int .i64 a0_1], .agg #[.int .u32 a1_0, .int .i64 a1_1]] w fun e w' => e = .returned (.bool r) ∧ Below w.heap.size w w' := by
 have hu34 := Tryz.underlying34
 have HB := Aside0.mk (Below.refl w.heap.size w)
 have H := h
 unfold addrs_Near.f at H
 clear h
 replace H := Option.bind_eq_some_iff.mp H
 obtain ⟨t168, A30, H⟩ := H
 try dsimp only at H
 have A3 := Aside0.mk A30
 clear A30
 by_cases c4 : t168 = true
 ·subst c4
  rw [if_pos rfl] at H
  replace H := Option.bind_eq_some_iff.mp H
  obtain ⟨t169, A50, H⟩ := H
  try dsimp only at H
  have A5 := Aside0.mk A50
  clear A50
  by_cases c6 : t169 = true
  ·subst c6
   rw [if_pos rfl] at H
   replace H := Option.bind_eq_some_iff.mp H
   obtain ⟨t170, A70, H⟩ := H
   try dsimp only at H
   have A7 := Aside0.mk A70
   clear A70
   replace H := Option.bind_eq_some_iff.mp H
   obtain ⟨t171, A80, H⟩ := H
   try dsimp only at H
   have A8 := Aside0.mk A80
   clear A80
   obtain rfl := Option.some.inj H
   go_enter Tryz.func28, Tryz.ntmps28
   try go_wp2_with (first | ((with_reducible refine gate_dst (N := 2) rfl ?_); refine box_event qgcr (N := 2) qgcr (cs := #[.int .u32 a0_0, .int .i64 a0_1]) (t := 34) qlto ?_; intro gb166 hg w9 hbox hb; have BK166 := Aside0.mk (hbox); have GE166 := Aside0.mk ((qisx : w.heap.size ≤ gb166)); replace HB := Aside0.mk (below_step qpag hb); clear hb hbox hg) | ((with_reducible refine gate_dst (N := 3) rfl ?_); refine box_event qgcr (N := 3) qgcr (cs := #[.int .u32 a1_0, .int .i64 a1_1]) (t := 34) qlto ?_; intro gb167 hg w10 hbox hb; have BK167 := Aside0.mk (hbox); have GE167 := Aside0.mk ((by rw [hg]; exact (below_size q9ii) : w.heap.size ≤ gb167)); have NB166_167 := Aside0.mk ((by rw [hg]; exact Nat.ne_of_lt (blk_lt (g := gb166) qece) : gb166 ≠ gb167)); have NB167_166 := Aside0.mk ((by rw [hg]; exact Nat.ne_of_gt (blk_lt (g := gb166) qece) : gb167 ≠ gb166)); replace BK166 := Aside0.mk (blk_below (g := gb166) qece hb); replace HB := Aside0.mk (below_step q9ii hb); have hcy1_166_0 := (show World.cell? _ ⟨gb166, 0, none⟩ = some (.int .u32 a0_0) from (blk_cell BK166.out 0).trans rfl); have hcy1_166_1 := (show World.cell? _ ⟨gb166, 1, none⟩ = some (.int .i64 a0_1) from (blk_cell BK166.out 1).trans rfl); clear hb hbox hg))
   replace BK166 := Aside0.mk (blk_drew BK166.out)
   replace BK167 := Aside0.mk (blk_drew BK167.out)
   replace HB := Aside0.mk (below_drew1 HB.out)
   refine start_ (n := 15) (S := fun w' => w'.cell? ⟨gb166, 0, none⟩ = some (.int .u32 a0_0) ∧ w'.cell? ⟨gb166, 1, none⟩ = some (.int .i64 a0_1) ∧ w'.cell? ⟨gb167, 0, none⟩ = some (.int .u32 a1_0) ∧ w'.cell? ⟨gb167, 1, none⟩ = some (.int .i64 a1_1)) (ds := []) (ba 15 0) qg3m rfl rfl ⟨(blk_cell BK166.out 0).trans rfl, (blk_cell BK166.out 1).trans rfl, (blk_cell BK167.out 0).trans rfl, (blk_cell BK167.out 1).trans rfl⟩ (fun hHeld => ?_); refine with_tabW addrs_Near.tab1 addrs_Near.bits1 (fun HT_ HW_ => ?_)
   generalize w10.drew = w11 at BK166 BK167 HB hHeld ⊢
   refine tk_15c (i := 0) (N := some 5) (ba 15 1) hHeld ?_
   refine one_ (i := 1) (N := some 6) (ba 15 3) rfl rfl (one_of HT_.out qg3m) qomw (fun K hK => ?_)
   refine goes_ Tryz.func22 qg3m rfl #[.agg #[.int .u32 a0_0, .int .i64 a0_1]] qlo1 rfl rfl qraq ?_
   with_reducible refine (addrs_Net.calls k a0_0 a0_1 true _ A3.out).mono ?_
   rintro e w12 ⟨rfl, hb⟩
   refine ⟨_, rfl, ?_⟩
   replace BK166 := Aside0.mk (blk_below (g := gb166) (o := .cells #[.int .u32 a0_0, .int .i64 a0_1] 34 (0, 0)) qece hb)
   replace BK167 := Aside0.mk (blk_below (g := gb167) (o := .cells #[.int .u32 a1_0, .int .i64 a1_1] 34 (0, 0)) q9lw hb)
   replace HB := Aside0.mk (below_step q9fv hb)
   (try clear hb)
   (try clear hb2)
   (try clear hk)
   (try clear hi)
   refine hK.out _ _ qd6l (fun hHeld => ?_)
   clear hK K
   refine norm_ (a' := ?_) ?_ ?_
   rotate_left
   ·exact z20_1
   refine pu_139 (i := 2) (N := some 7) (ba 15 7) ?_
   refine pu_139 (i := 4) (N := some 9) (ba 15 23) ?_
   refine tk_15c (i := 3) (N := some 8) (ba 15 31) hHeld ?_
   refine tk_15c (i := 5) (N := some 10) (ba 15 63) hHeld ?_
   refine one_ (i := 6) (N := some 11) (ba 15 127) rfl rfl (one_of HT_.out qg3m) qomw (fun K hK => ?_)
   refine goes_ Tryz.func24 qg3m rfl #[.agg #[.int .u32 a1_0, .int .i64 a1_1], .int .u32 a0_0] qlo1 rfl rfl qraq ?_
   with_reducible refine (addrs_In.calls k a1_0 a1_1 a0_0 true _ A5.out).mono ?_
   rintro e w13 ⟨rfl, hb⟩
   refine ⟨_, rfl, ?_⟩
   replace BK166 := Aside0.mk (blk_below (g := gb166) (o := .cells #[.int .u32 a0_0, .int .i64 a0_1] 34 (0, 0)) qece hb)
   replace BK167 := Aside0.mk (blk_below (g := gb167) (o := .cells #[.int .u32 a1_0, .int .i64 a1_1] 34 (0, 0)) q9lw hb)
   replace HB := Aside0.mk (below_step q9fv hb)
   (try clear hb)
   (try clear hb2)
   (try clear hk)
   (try clear hi)
   refine hK.out _ _ qd6l (fun hHeld => ?_)
   clear hK K
   refine norm_ (a' := ?_) ?_ ?_
   rotate_left
   ·exact z20_2
   refine pu_139 (i := 7) (N := some 12) (ba 15 255) ?_
   refine pu_139 (i := 8) (N := some 13) (ba 15 511) ?_
   refine tk_15c (i := 9) (N := some 14) (ba 15 1023) hHeld ?_
   refine tk_15c (i := 10) (N := some 15) (ba 15 2047) hHeld ?_
   refine one_ (i := 11) (N := some 16) (ba 15 4095) rfl rfl (one_of HT_.out qg3m) qomw (fun K hK => ?_)
   refine goes_ Tryz.func26 qg3m rfl #[.agg #[.int .u32 a0_0, .int .i64 a0_1]] qlo1 rfl rfl qraq ?_
   with_reducible refine (addrs_Last.calls k a0_0 a0_1 t170 _ A7.out).mono ?_
   rintro e w14 ⟨rfl, hb⟩
   refine ⟨_, rfl, ?_⟩
   replace BK166 := Aside0.mk (blk_below (g := gb166) (o := .cells #[.int .u32 a0_0, .int .i64 a0_1] 34 (0, 0)) qece hb)
   replace BK167 := Aside0.mk (blk_below (g := gb167) (o := .cells #[.int .u32 a1_0, .int .i64 a1_1] 34 (0, 0)) q9lw hb)
   replace HB := Aside0.mk (below_step q9fv hb)
   (try clear hb)
   (try clear hb2)
   (try clear hk)
   (try clear hi)
   refine hK.out _ _ qd6l (fun hHeld => ?_)
   clear hK K
   refine norm_ (a' := ?_) ?_ ?_
   rotate_left
   ·show Act.put _ (some 16) _ = _
    simp only [Act.put, List.setIfInBounds_toArray, List.set_cons_zero, List.set_cons_succ, i64_w, i32_w]
    rfl
   refine one_ (i := 12) (N := some 17) (ba 15 8191) rfl rfl (one_of HT_.out qg3m) qomw (fun K hK => ?_)
   refine goes_ Tryz.func24 qg3m rfl #[.agg #[.int .u32 a1_0, .int .i64 a1_1], .int .u32 t170] qlo1 rfl rfl qraq ?_
   with_reducible refine (addrs_In.calls k a1_0 a1_1 t170 t171 _ A8.out).mono ?_
   rintro e w15 ⟨rfl, hb⟩
   refine ⟨_, rfl, ?_⟩
   replace BK166 := Aside0.mk (blk_below (g := gb166) (o := .cells #[.int .u32 a0_0, .int .i64 a0_1] 34 (0, 0)) qece hb)
   replace BK167 := Aside0.mk (blk_below (g := gb167) (o := .cells #[.int .u32 a1_0, .int .i64 a1_1] 34 (0, 0)) q9lw hb)
   replace HB := Aside0.mk (below_step q9fv hb)
   (try clear hb)
   (try clear hb2)
   (try clear hk)
   (try clear hi)
   refine hK.out _ _ qd6l (fun hHeld => ?_)
   clear hK K
   refine norm_ (a' := ?_) ?_ ?_
   rotate_left
   ·show Act.put _ (some 17) _ = _
    simp only [Act.put, List.setIfInBounds_toArray, List.set_cons_zero, List.set_cons_succ, i64_w, i32_w]
    rfl
   refine pu_139 (i := 13) (N := some 18) (ba 15 16383) ?_
   refine pu_139 (i := 14) (N := some 4) (ba 15 32767) ?_
   refine done_ (done_of HT_.out qg3m) ?_
   try go_wp2
   go_ret
   exact ⟨qxu5, q9fv⟩
  ·replace c6 := Bool.eq_false_iff.mpr c6
   subst c6
   rw [if_neg (show ¬ (false = true) by decide)] at H
   obtain rfl := Option.some.inj H
   go_enter Tryz.func28, Tryz.ntmps28
   try go_wp2_with (first | ((with_reducible refine gate_dst (N := 2) rfl ?_); refine box_event qgcr (N := 2) qgcr (cs := #[.int .u32 a0_0, .int .i64 a0_1]) (t := 34) qlto ?_; intro gb166 hg w16 hbox hb; have BK166 := Aside0.mk (hbox); have GE166 := Aside0.mk ((qisx : w.heap.size ≤ gb166)); replace HB := Aside0.mk (below_step qpag hb); clear hb hbox hg) | ((with_reducible refine gate_dst (N := 3) rfl ?_); refine box_event qgcr (N := 3) qgcr (cs := #[.int .u32 a1_0, .int .i64 a1_1]) (t := 34) qlto ?_; intro gb167 hg w17 hbox hb; have BK167 := Aside0.mk (hbox); have GE167 := Aside0.mk ((by rw [hg]; exact (below_size q9ii) : w.heap.size ≤ gb167)); have NB166_167 := Aside0.mk ((by rw [hg]; exact Nat.ne_of_lt (blk_lt (g := gb166) qece) : gb166 ≠ gb167)); have NB167_166 := Aside0.mk ((by rw [hg]; exact Nat.ne_of_gt (blk_lt (g := gb166) qece) : gb167 ≠ gb166)); replace BK166 := Aside0.mk (blk_below (g := gb166) qece hb); replace HB := Aside0.mk (below_step q9ii hb); have hcy1_166_0 := (show World.cell? _ ⟨gb166, 0, none⟩ = some (.int .u32 a0_0) from (blk_cell BK166.out 0).trans rfl); have hcy1_166_1 := (show World.cell? _ ⟨gb166, 1, none⟩ = some (.int .i64 a0_1) from (blk_cell BK166.out 1).trans rfl); clear hb hbox hg))
   replace BK166 := Aside0.mk (blk_drew BK166.out)
   replace BK167 := Aside0.mk (blk_drew BK167.out)
   replace HB := Aside0.mk (below_drew1 HB.out)
   refine start_ (n := 15) (S := fun w' => w'.cell? ⟨gb166, 0, none⟩ = some (.int .u32 a0_0) ∧ w'.cell? ⟨gb166, 1, none⟩ = some (.int .i64 a0_1) ∧ w'.cell? ⟨gb167, 0, none⟩ = some (.int .u32 a1_0) ∧ w'.cell? ⟨gb167, 1, none⟩ = some (.int .i64 a1_1)) (ds := []) (ba 15 0) qg3m rfl rfl ⟨(blk_cell BK166.out 0).trans rfl, (blk_cell BK166.out 1).trans rfl, (blk_cell BK167.out 0).trans rfl, (blk_cell BK167.out 1).trans rfl⟩ (fun hHeld => ?_); refine with_tabW addrs_Near.tab1 addrs_Near.bits1 (fun HT_ HW_ => ?_)
   generalize w17.drew = w18 at BK166 BK167 HB hHeld ⊢
   refine tk_15c (i := 0) (N := some 5) (ba 15 1) hHeld ?_
   refine one_ (i := 1) (N := some 6) (ba 15 3) rfl rfl (one_of HT_.out qg3m) qomw (fun K hK => ?_)
   refine goes_ Tryz.func22 qg3m rfl #[.agg #[.int .u32 a0_0, .int .i64 a0_1]] qlo1 rfl rfl qraq ?_
   with_reducible refine (addrs_Net.calls k a0_0 a0_1 true _ A3.out).mono ?_
   rintro e w19 ⟨rfl, hb⟩
   refine ⟨_, rfl, ?_⟩
   replace BK166 := Aside0.mk (blk_below (g := gb166) (o := .cells #[.int .u32 a0_0, .int .i64 a0_1] 34 (0, 0)) qece hb)
   replace BK167 := Aside0.mk (blk_below (g := gb167) (o := .cells #[.int .u32 a1_0, .int .i64 a1_1] 34 (0, 0)) q9lw hb)
   replace HB := Aside0.mk (below_step q9fv hb)
   (try clear hb)
   (try clear hb2)
   (try clear hk)
   (try clear hi)
   refine hK.out _ _ qd6l (fun hHeld => ?_)
   clear hK K
   refine norm_ (a' := ?_) ?_ ?_
   rotate_left
   ·exact z20_1
   refine pu_139 (i := 2) (N := some 7) (ba 15 7) ?_
   refine pu_139 (i := 4) (N := some 9) (ba 15 23) ?_
   refine tk_15c (i := 3) (N := some 8) (ba 15 31) hHeld ?_
   refine tk_15c (i := 5) (N := some 10) (ba 15 63) hHeld ?_
   refine one_ (i := 6) (N := some 11) (ba 15 127) rfl rfl (one_of HT_.out qg3m) qomw (fun K hK => ?_)
   refine goes_ Tryz.func24 qg3m rfl #[.agg #[.int .u32 a1_0, .int .i64 a1_1], .int .u32 a0_0] qlo1 rfl rfl qraq ?_
   with_reducible refine (addrs_In.calls k a1_0 a1_1 a0_0 false _ A5.out).mono ?_
   rintro e w20 ⟨rfl, hb⟩
   refine ⟨_, rfl, ?_⟩
   replace BK166 := Aside0.mk (blk_below (g := gb166) (o := .cells #[.int .u32 a0_0, .int .i64 a0_1] 34 (0, 0)) qece hb)
   replace BK167 := Aside0.mk (blk_below (g := gb167) (o := .cells #[.int .u32 a1_0, .int .i64 a1_1] 34 (0, 0)) q9lw hb)
   replace HB := Aside0.mk (below_step q9fv hb)
   (try clear hb)
   (try clear hb2)
   (try clear hk)
   (try clear hi)
   refine hK.out _ _ qd6l (fun hHeld => ?_)
   clear hK K
   refine norm_ (a' := ?_) ?_ ?_
   rotate_left
   ·exact z20_2
   refine pu_139 (i := 7) (N := some 12) (ba 15 255) ?_
   refine pu_139 (i := 8) (N := some 13) (ba 15 511) ?_
   refine pure_ (i := 9) (N := some 14) (v := undef) (a' := ?_) (ba 15 1023) rfl rfl (any_of HT_.out qg3m) (fun _ _ _ h => h) (Or.inr ⟨quos, rfl⟩) ?_ ?_
   rotate_left
   ·exact z20_0
   refine pure_ (i := 10) (N := some 15) (v := undef) (a' := ?_) (ba 15 2047) rfl rfl (any_of HT_.out qg3m) (fun _ _ _ h => h) (Or.inr ⟨quos, rfl⟩) ?_ ?_
   rotate_left
   ·exact z20_0
   refine pure_ (i := 11) (N := some 16) (v := undef) (a' := ?_) (ba 15 4095) rfl rfl (any_of HT_.out qg3m) (fun _ _ _ h => h) (Or.inr ⟨quos, rfl⟩) ?_ ?_
   rotate_left
   ·exact z20_0
   refine pure_ (i := 12) (N := some 17) (v := undef) (a' := ?_) (ba 15 8191) rfl rfl (any_of HT_.out qg3m) (fun _ _ _ h => h) (Or.inr ⟨quos, rfl⟩) ?_ ?_
   rotate_left
   ·exact z20_0
   refine pu_139 (i := 13) (N := some 18) (ba 15 16383) ?_
   refine pu_139 (i := 14) (N := some 4) (ba 15 32767) ?_
   refine done_ (done_of HT_.out qg3m) ?_
   try go_wp2
   go_ret
   exact ⟨qxu5, q9fv⟩
 ·replace c4 := Bool.eq_false_iff.mpr c4
  subst c4
  rw [if_neg (show ¬ (false = true) by decide)] at H
  obtain rfl := Option.some.inj H
  go_enter Tryz.func28, Tryz.ntmps28
  try go_wp2_with (first | ((with_reducible refine gate_dst (N := 2) rfl ?_); refine box_event qgcr (N := 2) qgcr (cs := #[.int .u32 a0_0, .int .i64 a0_1]) (t := 34) qlto ?_; intro gb166 hg w21 hbox hb; have BK166 := Aside0.mk (hbox); have GE166 := Aside0.mk ((qisx : w.heap.size ≤ gb166)); replace HB := Aside0.mk (below_step qpag hb); clear hb hbox hg) | ((with_reducible refine gate_dst (N := 3) rfl ?_); refine box_event qgcr (N := 3) qgcr (cs := #[.int .u32 a1_0, .int .i64 a1_1]) (t := 34) qlto ?_; intro gb167 hg w22 hbox hb; have BK167 := Aside0.mk (hbox); have GE167 := Aside0.mk ((by rw [hg]; exact (below_size q9ii) : w.heap.size ≤ gb167)); have NB166_167 := Aside0.mk ((by rw [hg]; exact Nat.ne_of_lt (blk_lt (g := gb166) qece) : gb166 ≠ gb167)); have NB167_166 := Aside0.mk ((by rw [hg]; exact Nat.ne_of_gt (blk_lt (g := gb166) qece) : gb167 ≠ gb166)); replace BK166 := Aside0.mk (blk_below (g := gb166) qece hb); replace HB := Aside0.mk (below_step q9ii hb); have hcy1_166_0 := (show World.cell? _ ⟨gb166, 0, none⟩ = some (.int .u32 a0_0) from (blk_cell BK166.out 0).trans rfl); have hcy1_166_1 := (show World.cell? _ ⟨gb166, 1, none⟩ = some (.int .i64 a0_1) from (blk_cell BK166.out 1).trans rfl); clear hb hbox hg))
  replace BK166 := Aside0.mk (blk_drew BK166.out)
  replace BK167 := Aside0.mk (blk_drew BK167.out)
  replace HB := Aside0.mk (below_drew1 HB.out)
  refine start_ (n := 15) (S := fun w' => w'.cell? ⟨gb166, 0, none⟩ = some (.int .u32 a0_0) ∧ w'.cell? ⟨gb166, 1, none⟩ = some (.int .i64 a0_1)) (ds := []) (ba 15 0) qg3m rfl rfl ⟨(blk_cell BK166.out 0).trans rfl, (blk_cell BK166.out 1).trans rfl⟩ (fun hHeld => ?_); refine with_tabW addrs_Near.tab1 addrs_Near.bits1 (fun HT_ HW_ => ?_)
  generalize w22.drew = w23 at BK166 BK167 HB hHeld ⊢
  refine tk_ca0 (i := 0) (N := some 5) (ba 15 1) hHeld ?_
  refine one_ (i := 1) (N := some 6) (ba 15 3) rfl rfl (one_of HT_.out qg3m) qomw (fun K hK => ?_)
  refine goes_ Tryz.func22 qg3m rfl #[.agg #[.int .u32 a0_0, .int .i64 a0_1]] qlo1 rfl rfl qraq ?_
  with_reducible refine (addrs_Net.calls k a0_0 a0_1 false _ A3.out).mono ?_
  rintro e w24 ⟨rfl, hb⟩
  refine ⟨_, rfl, ?_⟩
  replace BK166 := Aside0.mk (blk_below (g := gb166) (o := .cells #[.int .u32 a0_0, .int .i64 a0_1] 34 (0, 0)) qece hb)
  replace BK167 := Aside0.mk (blk_below (g := gb167) (o := .cells #[.int .u32 a1_0, .int .i64 a1_1] 34 (0, 0)) q9lw hb)
  replace HB := Aside0.mk (below_step q9fv hb)
  (try clear hb)
  (try clear hb2)
  (try clear hk)
  (try clear hi)
  refine hK.out _ _ (by exact ⟨(blk_cell BK166.out 0).trans rfl, (blk_cell BK166.out 1).trans rfl⟩) (fun hHeld => ?_)
  clear hK K
  refine norm_ (a' := ?_) ?_ ?_
  rotate_left
  ·exact z20_1
  refine pu_139 (i := 2) (N := some 7) (ba 15 7) ?_
  refine pure_ (i := 3) (N := some 8) (v := undef) (a' := ?_) (ba 15 15) rfl rfl (any_of HT_.out qg3m) (fun _ _ _ h => h) (Or.inr ⟨quos, rfl⟩) ?_ ?_
  rotate_left
  ·exact z20_0
  refine pure_ (i := 4) (N := some 9) (v := undef) (a' := ?_) (ba 15 31) rfl rfl (any_of HT_.out qg3m) (fun _ _ _ h => h) (Or.inr ⟨quos, rfl⟩) ?_ ?_
  rotate_left
  ·exact z20_0
  refine pure_ (i := 5) (N := some 10) (v := undef) (a' := ?_) (ba 15 63) rfl rfl (any_of HT_.out qg3m) (fun _ _ _ h => h) (Or.inr ⟨quos, rfl⟩) ?_ ?_
  rotate_left
  ·exact z20_0
  refine pure_ (i := 6) (N := some 11) (v := undef) (a' := ?_) (ba 15 127) rfl rfl (any_of HT_.out qg3m) (fun _ _ _ h => h) (Or.inr ⟨quos, rfl⟩) ?_ ?_
  rotate_left
  ·exact z20_0
  refine pu_139 (i := 7) (N := some 12) (ba 15 255) ?_
  refine pu_139 (i := 8) (N := some 13) (ba 15 511) ?_
  refine pure_ (i := 9) (N := some 14) (v := undef) (a' := ?_) (ba 15 1023) rfl rfl (any_of HT_.out qg3m) (fun _ _ _ h => h) (Or.inr ⟨quos, rfl⟩) ?_ ?_
  rotate_left
  ·exact z20_0
  refine pure_ (i := 10) (N := some 15) (v := undef) (a' := ?_) (ba 15 2047) rfl rfl (any_of HT_.out qg3m) (fun _ _ _ h => h) (Or.inr ⟨quos, rfl⟩) ?_ ?_
  rotate_left
  ·exact z20_0
  refine pure_ (i := 11) (N := some 16) (v := undef) (a' := ?_) (ba 15 4095) rfl rfl (any_of HT_.out qg3m) (fun _ _ _ h => h) (Or.inr ⟨quos, rfl⟩) ?_ ?_
  rotate_left
  ·exact z20_0
  refine pure_ (i := 12) (N := some 17) (v := undef) (a' := ?_) (ba 15 8191) rfl rfl (any_of HT_.out qg3m) (fun _ _ _ h => h) (Or.inr ⟨quos, rfl⟩) ?_ ?_
  rotate_left
  ·exact z20_0
  refine pu_139 (i := 13) (N := some 18) (ba 15 16383) ?_
  refine pu_139 (i := 14) (N := some 4) (ba 15 32767) ?_
  refine done_ (done_of HT_.out qg3m) ?_
  try go_wp2
  go_ret
  exact ⟨qxu5, q9fv⟩
end Go.Proofs.YtgdjekigkimhnaaGreatDoor.P
