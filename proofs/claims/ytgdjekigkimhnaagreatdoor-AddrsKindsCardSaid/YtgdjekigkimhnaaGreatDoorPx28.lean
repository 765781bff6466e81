-- slim
-- Written by wip/hprint.py (this session's program) through the kit's print program; hand contracts are marked 'by hand'.
import Derived.Test.YtgdjekigkimhnaaGreatDoorAbb
import Derived.Test.YtgdjekigkimhnaaGreatDoorPx0
import Derived.Test.YtgdjekigkimhnaaGreatDoorPx25
namespace Go.Proofs.YtgdjekigkimhnaaGreatDoor.P
open Go.RowKit Go.Proofs.YtgdjekigkimhnaaGreatDoorW.PrintWords Go.Proofs.YtgdjekigkimhnaaGreatDoorW.PrintLast Go.Proofs.YtgdjekigkimhnaaGreatDoorW.PrintMore
attribute [local go_sem] max2_int min2_int max_two min_two max_three min_three max_four min_four   -- for this text's walks alone
set_option linter.unusedVariables false
set_option linter.unusedSimpArgs false

theorem qep1 {p : Prop} (h : p := by (with_reducible repeat (first | refine blk_drewN ?_ _ | refine blk_drew ?_ | refine blk_alloc ?_ _)); exact BK227.out) : p := h
theorem qdxf {p : Prop} (h : p := by repeat (first | (with_reducible first | exact HB.out | apply below_alloc | apply pw_below_drewN | apply below_drew1 | refine below_set ?_ GE227.out) | exact HB.out)) : p := h
/-! ### gangwayref02_Last: function 27 -/
def gangwayref02_Last.f (k : Nat) (a0_0 : Int) (a0_1 : Int) : Option (Int) := (gangwayref02_Net.f k a0_0 a0_1).bind fun t228 => (if t228 = true then ((gangwayref02_size.f k a0_0 a0_1).bind fun t229 => (some ((IntKind.u64.wrap ((IntKind.u64.wrap ((IntKind.u64.wrap (a0_0)) + t229)) - 1)) % 4294967296))) else (some 0))
theorem gangwayref02_Last.mono : ∀ a0 a1 k, LeO (gangwayref02_Last.f k a0 a1) (gangwayref02_Last.f (k + 1) a0 a1) := by
 intro a0 a1 k
 unfold gangwayref02_Last.f
 repeat' first
   | (with_reducible exact gangwayref02_Net.mono _ _ _)
   | (with_reducible exact gangwayref02_size.mono _ _ _)
   | (with_reducible exact LeO.refl _)
   | (with_reducible exact LeO.none _)
   | (with_reducible refine LeO.ite ?_ ?_)
   | (with_reducible refine LeO.bind ?_ (fun _ => ?_))
   | exact gangwayref02_Net.mono _ _ _
   | exact gangwayref02_size.mono _ _ _
   | exact LeO.none _
   | refine LeO.ite ?_ ?_
   | refine LeO.bind ?_ (fun _ => ?_)
def gangwayref02_Last.T3 : Bool × List (List Nat × List Nat) := (true, [([], []), ([0], [0]), ([1], [1]), ([], []), ([3], [3]), ([2, 4], [2, 4]), ([5], [5]), ([6], [6]), ([7, 4, 0, 1, 2, 3, 4, 5, 6, 7], [7])])
def gangwayref02_Last.B3 : List Nat := [0, 1, 3, 0, 8, 31, 63, 127, 255]
theorem gangwayref02_Last.tab3 : rtab .any (opsOf Tryz.f27 3) = gangwayref02_Last.T3 := by kernel_rfl
theorem gangwayref02_Last.bits3 : waitsOk gangwayref02_Last.T3.2 gangwayref02_Last.B3 = true := by kernel_rfl
set_option maxHeartbeats 8000000 in
set_option maxRecDepth 100000 in
theorem gangwayref02_Last.calls (k : Nat) (a0_0 : Int) (a0_1 : Int) (r : Int) (w : World) (h : gangwayref02_Last.f k a0_0 a0_1 = some r) :
  Calls Tryz.prog 27 #[.agg #[.int .u32 a0_0, .int .i64 a0_1]] w fun e w' => e = .returned (.int .u32 r) ∧ Below w.heap.size w w' := by
 have hu34 := Tryz.underlying34
 have HB := Aside0.mk (Below.refl w.heap.size w)
 have H := h
 unfold gangwayref02_Last.f at H
 clear h
 replace H := Option.bind_eq_some_iff.mp H
 obtain ⟨t228, A20, H⟩ := H
 try dsimp only at H
 have A2 := Aside0.mk A20
 clear A20
 by_cases c3 : t228 = true
 ·subst c3
  rw [if_pos rfl] at H
  replace H := Option.bind_eq_some_iff.mp H
  obtain ⟨t229, A40, H⟩ := H
  try dsimp only at H
  have A4 := Aside0.mk A40
  clear A40
  obtain rfl := Option.some.inj H
  go_enter Tryz.func27, Tryz.ntmps27
  try go_wp2_with (first | ((with_reducible refine gate_dst (N := 1) rfl ?_); refine box_event qgcr (N := 1) qgcr (cs := #[.int .u32 a0_0, .int .i64 a0_1]) (t := 34) qlto ?_; intro gb227 hg w5 hbox hb; have BK227 := Aside0.mk (hbox); have GE227 := Aside0.mk ((qisx : w.heap.size ≤ gb227)); replace HB := Aside0.mk (below_step qpag hb); clear hb hbox hg; have hcz6_0 : w5.cell? ⟨gb227, 0, none⟩ = some (.int .u32 a0_0) := (blk_cell BK227.out 0).trans rfl; have hcz6_1 : w5.cell? ⟨gb227, 1, none⟩ = some (.int .i64 a0_1) := (blk_cell BK227.out 1).trans rfl; have hfz6_0 := blk_frozen BK227.out 0; have hfz6_1 := blk_frozen BK227.out 1) | ((with_reducible refine gate_callee (f := 23) rfl ?_); refine goesL_ (some 4) rfl rfl Tryz.func23 qg3m rfl #[.agg #[.int .u32 a0_0, .int .i64 a0_1]] rfl qraq ?_; (with_reducible refine (gangwayref02_Net.calls k a0_0 a0_1 true _ A2.out).mono ?_); rintro e w7 ⟨rfl, hb⟩; refine ⟨_, rfl, ?_⟩; replace BK227 := Aside0.mk (blk_below (g := gb227) qep1 hb); replace HB := Aside0.mk (below_step qdxf hb); have hcy1_227_0 := (show World.cell? _ ⟨gb227, 0, none⟩ = some (.int .u32 a0_0) from (blk_cell BK227.out 0).trans rfl); have hcy1_227_1 := (show World.cell? _ ⟨gb227, 1, none⟩ = some (.int .i64 a0_1) from (blk_cell BK227.out 1).trans rfl); (try clear hb); (try clear hb2); (try clear hk); (try clear hi)))
  replace BK227 := Aside0.mk (blk_drew BK227.out)
  replace HB := Aside0.mk (below_drew1 HB.out)
  refine start_ (n := 9) (S := fun w' => w'.cell? ⟨gb227, 0, none⟩ = some (.int .u32 a0_0) ∧ w'.cell? ⟨gb227, 1, none⟩ = some (.int .i64 a0_1)) (ds := []) (ba 9 0) qg3m rfl rfl ⟨(blk_cell BK227.out 0).trans rfl, (blk_cell BK227.out 1).trans rfl⟩ (fun hHeld => ?_); refine with_tabW gangwayref02_Last.tab3 gangwayref02_Last.bits3 (fun HT_ HW_ => ?_)
  generalize w7.drew = w8 at BK227 HB hHeld ⊢
  refine pu_139 (i := 0) (N := some 6) (ba 9 1) ?_
  refine tk_ca0 (i := 1) (N := some 7) (ba 9 3) hHeld ?_
  refine pu_139 (i := 2) (N := some 8) (ba 9 7) ?_
  refine tk_ca0 (i := 3) (N := some 9) (ba 9 15) hHeld ?_
  refine one_ (i := 4) (N := some 10) (ba 9 31) rfl rfl (one_of HT_.out qg3m) qomw (fun K hK => ?_)
  refine goes_ Tryz.func45 qg3m rfl #[.agg #[.int .u32 a0_0, .int .i64 a0_1]] qlo1 rfl rfl qraq ?_
  with_reducible refine (gangwayref02_size.calls k a0_0 a0_1 t229 _ A4.out).mono ?_
  rintro e w9 ⟨rfl, hb⟩
  refine ⟨_, rfl, ?_⟩
  replace BK227 := Aside0.mk (blk_below (g := gb227) (o := .cells #[.int .u32 a0_0, .int .i64 a0_1] 34 (0, 0)) qep1 hb)
  replace HB := Aside0.mk (below_step qdxf hb)
  (try clear hb)
  (try clear hb2)
  (try clear hk)
  (try clear hi)
  refine hK.out _ _ (by exact ⟨(blk_cell BK227.out 0).trans rfl, (blk_cell BK227.out 1).trans rfl⟩) (fun hHeld => ?_)
  clear hK K
  refine norm_ (a' := ?_) ?_ ?_
  rotate_left
  ·show Act.put _ (some 10) _ = _
   simp only [Act.put, List.setIfInBounds_toArray, List.set_cons_zero, List.set_cons_succ, i64_w, i32_w]
   rfl
  refine pu_139 (i := 5) (N := some 11) (ba 9 63) ?_
  refine pu_139 (i := 6) (N := some 12) (ba 9 127) ?_
  refine pu_139 (i := 7) (N := some 13) (ba 9 255) ?_
  refine pu_139 (i := 8) (N := some 2) (ba 9 511) ?_
  refine done_ (done_of HT_.out qg3m) ?_
  try go_wp2
  go_ret
  exact ⟨qxu5, qdxf⟩
 ·replace c3 := Bool.eq_false_iff.mpr c3
  subst c3
  rw [if_neg (show ¬ (false = true) by decide)] at H
  obtain rfl := Option.some.inj H
  go_enter Tryz.func27, Tryz.ntmps27
  go_wp2_with (first | ((with_reducible refine gate_dst (N := 1) rfl ?_); refine box_event qgcr (N := 1) qgcr (cs := #[.int .u32 a0_0, .int .i64 a0_1]) (t := 34) qlto ?_; intro gb227 hg w10 hbox hb; have BK227 := Aside0.mk (hbox); have GE227 := Aside0.mk ((qisx : w.heap.size ≤ gb227)); replace HB := Aside0.mk (below_step qpag hb); clear hb hbox hg; have hcz11_0 : w10.cell? ⟨gb227, 0, none⟩ = some (.int .u32 a0_0) := (blk_cell BK227.out 0).trans rfl; have hcz11_1 : w10.cell? ⟨gb227, 1, none⟩ = some (.int .i64 a0_1) := (blk_cell BK227.out 1).trans rfl; have hfz11_0 := blk_frozen BK227.out 0; have hfz11_1 := blk_frozen BK227.out 1) | ((with_reducible refine gate_callee (f := 23) rfl ?_); refine goesL_ (some 4) rfl rfl Tryz.func23 qg3m rfl #[.agg #[.int .u32 a0_0, .int .i64 a0_1]] rfl qraq ?_; (with_reducible refine (gangwayref02_Net.calls k a0_0 a0_1 false _ A2.out).mono ?_); rintro e w12 ⟨rfl, hb⟩; refine ⟨_, rfl, ?_⟩; replace BK227 := Aside0.mk (blk_below (g := gb227) qep1 hb); replace HB := Aside0.mk (below_step qdxf hb); have hcy1_227_0 := (show World.cell? _ ⟨gb227, 0, none⟩ = some (.int .u32 a0_0) from (blk_cell BK227.out 0).trans rfl); have hcy1_227_1 := (show World.cell? _ ⟨gb227, 1, none⟩ = some (.int .i64 a0_1) from (blk_cell BK227.out 1).trans rfl); (try clear hb); (try clear hb2); (try clear hk); (try clear hi)))
  go_ret
  exact ⟨qxu5, qdxf⟩

end Go.Proofs.YtgdjekigkimhnaaGreatDoor.P
namespace Go.Proofs.YtgdjekigkimhnaaGreatDoor.P
open Go.RowKit Go.Proofs.YtgdjekigkimhnaaGreatDoorW.PrintWords Go.Proofs.YtgdjekigkimhnaaGreatDoorW.PrintLast Go.Proofs.YtgdjekigkimhnaaGreatDoorW.PrintMore
attribute [local go_sem] max2_int min2_int max_two min_two max_three min_three max_four min_four   -- for this text's walks alone
set_option linter.unusedVariables false
set_option linter.unusedSimpArgs false

theorem qpin {p : Prop} (h : p := by exact ⟨(blk_cell BK224.out 0).trans rfl, (blk_cell BK224.out 1).trans rfl⟩) : p := h
theorem q6wm {p : Prop} (h : p := by (with_reducible repeat (first | refine blk_drewN ?_ _ | refine blk_drew ?_ | refine blk_alloc ?_ _)); exact BK224.out) : p := h
theorem qtj3 {p : Prop} (h : p := by repeat (first | (with_reducible first | exact HB.out | apply below_alloc | apply pw_below_drewN | apply below_drew1 | refine below_set ?_ GE224.out) | exact HB.out)) : p := h
/-! ### gangwayref02_In: function 25 -/
def gangwayref02_In.f (k : Nat) (a0_0 : Int) (a0_1 : Int) (a1 : Int) : Option (Bool) := (gangwayref02_Net.f k a0_0 a0_1).bind fun t225 => (if t225 = true then (if a1 ≥ a0_0 then ((gangwayref02_size.f k a0_0 a0_1).bind fun t226 => (some (decide ((IntKind.u64.wrap ((IntKind.u64.wrap (a1)) - (IntKind.u64.wrap (a0_0)))) < t226)))) else (some false)) else (some false))
theorem gangwayref02_In.mono : ∀ a0 a1 a2 k, LeO (gangwayref02_In.f k a0 a1 a2) (gangwayref02_In.f (k + 1) a0 a1 a2) := by
 intro a0 a1 a2 k
 unfold gangwayref02_In.f
 repeat' first
   | (with_reducible exact gangwayref02_Net.mono _ _ _)
   | (with_reducible exact gangwayref02_size.mono _ _ _)
   | (with_reducible exact LeO.refl _)
   | (with_reducible exact LeO.none _)
   | (with_reducible refine LeO.ite ?_ ?_)
   | (with_reducible refine LeO.bind ?_ (fun _ => ?_))
   | exact gangwayref02_Net.mono _ _ _
   | exact gangwayref02_size.mono _ _ _
   | exact LeO.none _
   | refine LeO.ite ?_ ?_
   | refine LeO.bind ?_ (fun _ => ?_)
def gangwayref02_In.T1 : Bool × List (List Nat × List Nat) := (true, [([], []), ([0], [0]), ([1, 1], [1]), ([2], [2]), ([2], [2]), ([4, 2], [2, 4]), ([3, 5, 2], [2, 3, 5]), ([2, 6], [2, 6]), ([7, 2], [7]), ([8], [8]), ([9, 8], [8, 9]), ([8], [8]), ([11, 8], [8, 11]), ([12, 8], [8, 12]), ([10, 13, 8], [8, 10, 13]), ([8], [8]), ([15, 8, 8], [8, 15]), ([14, 16, 8], [8, 14, 16]), ([8, 17], [8, 17]), ([18, 16, 0, 1, 2, 3, 4, 5, 6, 7, 8, 9, 10, 11, 12, 13, 14, 15, 16, 17, 18], [18])])
def gangwayref02_In.B1 : List Nat := [0, 1, 3, 7, 7, 23, 63, 127, 255, 511, 1023, 511, 2559, 6655, 16383, 511, 33279, 131071, 262143, 524287]
theorem gangwayref02_In.tab1 : rtab .any (opsOf Tryz.f25 1) = gangwayref02_In.T1 := by kernel_rfl
theorem gangwayref02_In.bits1 : waitsOk gangwayref02_In.T1.2 gangwayref02_In.B1 = true := by kernel_rfl
theorem z27_0 {p : Prop} (h : p := by
 simp only [Act.put, List.setIfInBounds_toArray, List.set_cons_zero, List.set_cons_succ, i64_w, i32_w]
 rfl) : p := h
theorem z27_1 {p : Prop} (h : p := by
 show Act.put _ (some 6) _ = _
 simp only [Act.put, List.setIfInBounds_toArray, List.set_cons_zero, List.set_cons_succ, i64_w, i32_w]
 rfl) : p := h
set_option maxHeartbeats 8000000 in
set_option maxRecDepth 100000 in
theorem gangwayref02_In.calls (k : Nat) (a0_0 : Int) (a0_1 : Int) (a1 : Int) (r : Bool) (w : World) (h : gangwayref02_In.f k a0_0 a0_1 a1 = some r) :
  Calls Tryz.prog 25 #[.agg #[.int .u32 a0_0, .int .i64 a0_1], .int .u32 a1] w fun e w' => e = .returned (.bool r) ∧ Below w.heap.size w w' := by
 have hu34 := Tryz.underlying34
 have HB := Aside0.mk (Below.refl w.heap.size w)
 have H := h
 unfold gangwayref02_In.f at H
 clear h
 replace H := Option.bind_eq_some_iff.mp H
 obtain ⟨t225, A30, H⟩ := H
 try dsimp only at H
 have A3 := Aside0.mk A30
 clear A30
 by_cases c4 : t225 = true
 ·subst c4
  rw [if_pos rfl] at H
  by_cases c5 : a1 ≥ a0_0
  ·rw [if_pos c5] at H
   have c5b0 : decide (a0_0 ≤ a1) = true := decide_eq_true c5
   clear c5
   replace H := Option.bind_eq_some_iff.mp H
   obtain ⟨t226, A60, H⟩ := H
   try dsimp only at H
   have A6 := Aside0.mk A60
   clear A60
   obtain rfl := Option.some.inj H
   go_enter Tryz.func25, Tryz.ntmps25
   try go_wp2_with (first | ((with_reducible refine gate_dst (N := 2) rfl ?_); refine box_event qgcr (N := 2) qgcr (cs := #[.int .u32 a0_0, .int .i64 a0_1]) (t := 34) qlto ?_; intro gb224 hg w7 hbox hb; have BK224 := Aside0.mk (hbox); have GE224 := Aside0.mk ((qisx : w.heap.size ≤ gb224)); replace HB := Aside0.mk (below_step qpag hb); clear hb hbox hg))
   replace BK224 := Aside0.mk (blk_drew BK224.out)
   replace HB := Aside0.mk (below_drew1 HB.out)
   refine start_ (n := 20) (S := fun w' => w'.cell? ⟨gb224, 0, none⟩ = some (.int .u32 a0_0) ∧ w'.cell? ⟨gb224, 1, none⟩ = some (.int .i64 a0_1)) (ds := []) (ba 20 0) qg3m rfl rfl ⟨(blk_cell BK224.out 0).trans rfl, (blk_cell BK224.out 1).trans rfl⟩ (fun hHeld => ?_); refine with_tabW gangwayref02_In.tab1 gangwayref02_In.bits1 (fun HT_ HW_ => ?_)
   generalize w7.drew = w8 at BK224 HB hHeld ⊢
   refine tk_ca0 (i := 0) (N := some 5) (ba 20 1) hHeld ?_
   refine one_ (i := 1) (N := some 6) (ba 20 3) rfl rfl (one_of HT_.out qg3m) qomw (fun K hK => ?_)
   refine goes_ Tryz.func23 qg3m rfl #[.agg #[.int .u32 a0_0, .int .i64 a0_1]] qlo1 rfl rfl qraq ?_
   with_reducible refine (gangwayref02_Net.calls k a0_0 a0_1 true _ A3.out).mono ?_
   rintro e w9 ⟨rfl, hb⟩
   refine ⟨_, rfl, ?_⟩
   replace BK224 := Aside0.mk (blk_below (g := gb224) (o := .cells #[.int .u32 a0_0, .int .i64 a0_1] 34 (0, 0)) q6wm hb)
   replace HB := Aside0.mk (below_step qtj3 hb)
   (try clear hb)
   (try clear hb2)
   (try clear hk)
   (try clear hi)
   refine hK.out _ _ qpin (fun hHeld => ?_)
   clear hK K
   refine norm_ (a' := ?_) ?_ ?_
   rotate_left
   ·exact z27_1
   refine pu_139 (i := 2) (N := some 7) (ba 20 7) ?_
   refine pu_139 (i := 3) (N := some 8) (ba 20 15) ?_
   refine pu_139 (i := 4) (N := some 9) (ba 20 31) ?_
   refine tk_ca0 (i := 5) (N := some 10) (ba 20 63) hHeld ?_
   refine pu_139 (i := 6) (N := some 11) (ba 20 127) ?_
   refine pu_139 (i := 7) (N := some 12) (ba 20 255) ?_
   refine pu_139 (i := 8) (N := some 13) (ba 20 511) ?_
   refine pu_139 (i := 9) (N := some 14) (ba 20 1023) ?_
   refine pu_139 (i := 10) (N := some 15) (ba 20 2047) ?_
   refine pu_139 (i := 11) (N := some 16) (ba 20 4095) ?_
   refine tk_ca0 (i := 12) (N := some 17) (ba 20 8191) hHeld ?_
   refine pu_139 (i := 13) (N := some 18) (ba 20 16383) ?_
   refine pu_139 (i := 14) (N := some 19) (ba 20 32767) ?_
   refine tk_ca0 (i := 15) (N := some 20) (ba 20 65535) hHeld ?_
   refine one_ (i := 16) (N := some 21) (ba 20 131071) rfl rfl (one_of HT_.out qg3m) qomw (fun K hK => ?_)
   refine goes_ Tryz.func45 qg3m rfl #[.agg #[.int .u32 a0_0, .int .i64 a0_1]] qlo1 rfl rfl qraq ?_
   with_reducible refine (gangwayref02_size.calls k a0_0 a0_1 t226 _ A6.out).mono ?_
   rintro e w10 ⟨rfl, hb⟩
   refine ⟨_, rfl, ?_⟩
   replace BK224 := Aside0.mk (blk_below (g := gb224) (o := .cells #[.int .u32 a0_0, .int .i64 a0_1] 34 (0, 0)) q6wm hb)
   replace HB := Aside0.mk (below_step qtj3 hb)
   (try clear hb)
   (try clear hb2)
   (try clear hk)
   (try clear hi)
   refine hK.out _ _ qpin (fun hHeld => ?_)
   clear hK K
   refine norm_ (a' := ?_) ?_ ?_
   rotate_left
   ·show Act.put _ (some 21) _ = _
    simp only [Act.put, List.setIfInBounds_toArray, List.set_cons_zero, List.set_cons_succ, i64_w, i32_w]
    rfl
   refine pu_139 (i := 17) (N := some 22) (ba 20 262143) ?_
   refine pu_139 (i := 18) (N := some 23) (ba 20 524287) ?_
   refine pu_139 (i := 19) (N := some 4) (ba 20 1048575) ?_
   refine done_ (done_of HT_.out qg3m) ?_
   try go_wp2
   go_ret
   exact ⟨qxu5, qtj3⟩
  ·rw [if_neg c5] at H
   have c5b0 : decide (a0_0 ≤ a1) = false := decide_eq_false c5
   clear c5
   obtain rfl := Option.some.inj H
   go_enter Tryz.func25, Tryz.ntmps25
   try go_wp2_with (first | ((with_reducible refine gate_dst (N := 2) rfl ?_); refine box_event qgcr (N := 2) qgcr (cs := #[.int .u32 a0_0, .int .i64 a0_1]) (t := 34) qlto ?_; intro gb224 hg w11 hbox hb; have BK224 := Aside0.mk (hbox); have GE224 := Aside0.mk ((qisx : w.heap.size ≤ gb224)); replace HB := Aside0.mk (below_step qpag hb); clear hb hbox hg))
   replace BK224 := Aside0.mk (blk_drew BK224.out)
   replace HB := Aside0.mk (below_drew1 HB.out)
   refine start_ (n := 20) (S := fun w' => w'.cell? ⟨gb224, 0, none⟩ = some (.int .u32 a0_0) ∧ w'.cell? ⟨gb224, 1, none⟩ = some (.int .i64 a0_1)) (ds := []) (ba 20 0) qg3m rfl rfl ⟨(blk_cell BK224.out 0).trans rfl, (blk_cell BK224.out 1).trans rfl⟩ (fun hHeld => ?_); refine with_tabW gangwayref02_In.tab1 gangwayref02_In.bits1 (fun HT_ HW_ => ?_)
   generalize w11.drew = w12 at BK224 HB hHeld ⊢
   refine tk_ca0 (i := 0) (N := some 5) (ba 20 1) hHeld ?_
   refine one_ (i := 1) (N := some 6) (ba 20 3) rfl rfl (one_of HT_.out qg3m) qomw (fun K hK => ?_)
   refine goes_ Tryz.func23 qg3m rfl #[.agg #[.int .u32 a0_0, .int .i64 a0_1]] qlo1 rfl rfl qraq ?_
   with_reducible refine (gangwayref02_Net.calls k a0_0 a0_1 true _ A3.out).mono ?_
   rintro e w13 ⟨rfl, hb⟩
   refine ⟨_, rfl, ?_⟩
   replace BK224 := Aside0.mk (blk_below (g := gb224) (o := .cells #[.int .u32 a0_0, .int .i64 a0_1] 34 (0, 0)) q6wm hb)
   replace HB := Aside0.mk (below_step qtj3 hb)
   (try clear hb)
   (try clear hb2)
   (try clear hk)
   (try clear hi)
   refine hK.out _ _ qpin (fun hHeld => ?_)
   clear hK K
   refine norm_ (a' := ?_) ?_ ?_
   rotate_left
   ·exact z27_1
   refine pu_139 (i := 2) (N := some 7) (ba 20 7) ?_
   refine pu_139 (i := 3) (N := some 8) (ba 20 15) ?_
   refine pu_139 (i := 4) (N := some 9) (ba 20 31) ?_
   refine tk_ca0 (i := 5) (N := some 10) (ba 20 63) hHeld ?_
   refine pu_139 (i := 6) (N := some 11) (ba 20 127) ?_
   refine pu_139 (i := 7) (N := some 12) (ba 20 255) ?_
   refine pu_139 (i := 8) (N := some 13) (ba 20 511) ?_
   refine pure_ (i := 9) (N := some 14) (v := undef) (a' := ?_) (ba 20 1023) rfl rfl (any_of HT_.out qg3m) (fun _ _ _ h => h) (Or.inr ⟨quos, rfl⟩) ?_ ?_
   rotate_left
   ·exact z27_0
   refine pure_ (i := 10) (N := some 15) (v := undef) (a' := ?_) (ba 20 2047) rfl rfl (any_of HT_.out qg3m) (fun _ _ _ h => h) (Or.inr ⟨quos, rfl⟩) ?_ ?_
   rotate_left
   ·exact z27_0
   refine pure_ (i := 11) (N := some 16) (v := undef) (a' := ?_) (ba 20 4095) rfl rfl (any_of HT_.out qg3m) (fun _ _ _ h => h) (Or.inr ⟨quos, rfl⟩) ?_ ?_
   rotate_left
   ·exact z27_0
   refine pure_ (i := 12) (N := some 17) (v := undef) (a' := ?_) (ba 20 8191) rfl rfl (any_of HT_.out qg3m) (fun _ _ _ h => h) (Or.inr ⟨quos, rfl⟩) ?_ ?_
   rotate_left
   ·exact z27_0
   refine pure_ (i := 13) (N := some 18) (v := undef) (a' := ?_) (ba 20 16383) rfl rfl (any_of HT_.out qg3m) (fun _ _ _ h => h) (Or.inr ⟨quos, rfl⟩) ?_ ?_
   rotate_left
   ·exact z27_0
   refine pure_ (i := 14) (N := some 19) (v := undef) (a' := ?_) (ba 20 32767) rfl rfl (any_of HT_.out qg3m) (fun _ _ _ h => h) (Or.inr ⟨quos, rfl⟩) ?_ ?_
   rotate_left
   ·exact z27_0
   refine pure_ (i := 15) (N := some 20) (v := undef) (a' := ?_) (ba 20 65535) rfl rfl (any_of HT_.out qg3m) (fun _ _ _ h => h) (Or.inr ⟨quos, rfl⟩) ?_ ?_
   rotate_left
   ·exact z27_0
   refine pure_ (i := 16) (N := some 21) (v := undef) (a' := ?_) (ba 20 131071) rfl rfl (any_of HT_.out qg3m) (fun _ _ _ h => h) (Or.inr ⟨quos, rfl⟩) ?_ ?_
   rotate_left
   ·exact z27_0
   refine pure_ (i := 17) (N := some 22) (v := undef) (a' := ?_) (ba 20 262143) rfl rfl (any_of HT_.out qg3m) (fun _ _ _ h => h) (Or.inr ⟨quos, rfl⟩) ?_ ?_
   rotate_left
   ·exact z27_0
   refine pu_139 (i := 18) (N := some 23) (ba 20 524287) ?_
   refine pu_139 (i := 19) (N := some 4) (ba 20 1048575) ?_
   refine done_ (done_of HT_.out qg3m) ?_
   try go_wp2
   go_ret
   exact ⟨qxu5, qtj3⟩
 ·replace c4 := Bool.eq_false_iff.mpr c4
  subst c4
  rw [if_neg (show ¬ (false = true) by decide)] at H
  obtain rfl := Option.some.inj H
  go_enter Tryz.func25, Tryz.ntmps25
  try go_wp2_with (first | ((with_reducible refine gate_dst (N := 2) rfl ?_); refine box_event qgcr (N := 2) qgcr (cs := #[.int .u32 a0_0, .int .i64 a0_1]) (t := 34) qlto ?_; intro gb224 hg w14 hbox hb; have BK224 := Aside0.mk (hbox); have GE224 := Aside0.mk ((qisx : w.heap.size ≤ gb224)); replace HB := Aside0.mk (below_step qpag hb); clear hb hbox hg))
  replace BK224 := Aside0.mk (blk_drew BK224.out)
  replace HB := Aside0.mk (below_drew1 HB.out)
  refine start_ (n := 20) (S := fun w' => w'.cell? ⟨gb224, 0, none⟩ = some (.int .u32 a0_0) ∧ w'.cell? ⟨gb224, 1, none⟩ = some (.int .i64 a0_1)) (ds := []) (ba 20 0) qg3m rfl rfl ⟨(blk_cell BK224.out 0).trans rfl, (blk_cell BK224.out 1).trans rfl⟩ (fun hHeld => ?_); refine with_tabW gangwayref02_In.tab1 gangwayref02_In.bits1 (fun HT_ HW_ => ?_)
  generalize w14.drew = w15 at BK224 HB hHeld ⊢
  refine tk_ca0 (i := 0) (N := some 5) (ba 20 1) hHeld ?_
  refine one_ (i := 1) (N := some 6) (ba 20 3) rfl rfl (one_of HT_.out qg3m) qomw (fun K hK => ?_)
  refine goes_ Tryz.func23 qg3m rfl #[.agg #[.int .u32 a0_0, .int .i64 a0_1]] qlo1 rfl rfl qraq ?_
  with_reducible refine (gangwayref02_Net.calls k a0_0 a0_1 false _ A3.out).mono ?_
  rintro e w16 ⟨rfl, hb⟩
  refine ⟨_, rfl, ?_⟩
  replace BK224 := Aside0.mk (blk_below (g := gb224) (o := .cells #[.int .u32 a0_0, .int .i64 a0_1] 34 (0, 0)) q6wm hb)
  replace HB := Aside0.mk (below_step qtj3 hb)
  (try clear hb)
  (try clear hb2)
  (try clear hk)
  (try clear hi)
  refine hK.out _ _ qpin (fun hHeld => ?_)
  clear hK K
  refine norm_ (a' := ?_) ?_ ?_
  rotate_left
  ·exact z27_1
  refine pu_139 (i := 2) (N := some 7) (ba 20 7) ?_
  refine pure_ (i := 3) (N := some 8) (v := undef) (a' := ?_) (ba 20 15) rfl rfl (any_of HT_.out qg3m) (fun _ _ _ h => h) (Or.inr ⟨quos, rfl⟩) ?_ ?_
  rotate_left
  ·exact z27_0
  refine pure_ (i := 4) (N := some 9) (v := undef) (a' := ?_) (ba 20 31) rfl rfl (any_of HT_.out qg3m) (fun _ _ _ h => h) (Or.inr ⟨quos, rfl⟩) ?_ ?_
  rotate_left
  ·exact z27_0
  refine pure_ (i := 5) (N := some 10) (v := undef) (a' := ?_) (ba 20 63) rfl rfl (any_of HT_.out qg3m) (fun _ _ _ h => h) (Or.inr ⟨quos, rfl⟩) ?_ ?_
  rotate_left
  ·exact z27_0
  refine pure_ (i := 6) (N := some 11) (v := undef) (a' := ?_) (ba 20 127) rfl rfl (any_of HT_.out qg3m) (fun _ _ _ h => h) (Or.inr ⟨quos, rfl⟩) ?_ ?_
  rotate_left
  ·exact z27_0
  refine pu_139 (i := 7) (N := some 12) (ba 20 255) ?_
  refine pu_139 (i := 8) (N := some 13) (ba 20 511) ?_
  refine pure_ (i := 9) (N := some 14) (v := undef) (a' := ?_) (ba 20 1023) rfl rfl (any_of HT_.out qg3m) (fun _ _ _ h => h) (Or.inr ⟨quos, rfl⟩) ?_ ?_
  rotate_left
  ·exact z27_0
  refine pure_ (i := 10) (N := some 15) (v := undef) (a' := ?_) (ba 20 2047) rfl rfl (any_of HT_.out qg3m) (fun _ _ _ h => h) (Or.inr ⟨quos, rfl⟩) ?_ ?_
  rotate_left
  ·exact z27_0
  refine pure_ (i := 11) (N := some 16) (v := undef) (a' := ?_) (ba 20 4095) rfl rfl (any_of HT_.out qg3m) (fun _ _ _ h => h) (Or.inr ⟨quos, rfl⟩) ?_ ?_
  rotate_left
  ·exact z27_0
  refine pure_ (i := 12) (N := some 17) (v := undef) (a' := ?_) (ba 20 8191) rfl rfl (any_of HT_.out qg3m) (fun _ _ _ h => h) (Or.inr ⟨quos, rfl⟩) ?_ ?_
  rotate_left
  ·exact z27_0
  refine pure_ (i := 13) (N := some 18) (v := undef) (a' := ?_) (ba 20 16383) rfl rfl (any_of HT_.out qg3m) (fun _ _ _ h => h) (Or.inr ⟨quos, rfl⟩) ?_ ?_
  rotate_left
  ·exact z27_0
  refine pure_ (i := 14) (N := some 19) (v := undef) (a' := ?_) (ba 20 32767) rfl rfl (any_of HT_.out qg3m) (fun _ _ _ h => h) (Or.inr ⟨quos, rfl⟩) ?_ ?_
  rotate_left
  ·exact z27_0
  refine pure_ (i := 15) (N := some 20) (v := undef) (a' := ?_) (ba 20 65535) rfl rfl (any_of HT_.out qg3m) (fun _ _ _ h => h) (Or.inr ⟨quos, rfl⟩) ?_ ?_
  rotate_left
  ·exact z27_0
  refine pure_ (i := 16) (N := some 21) (v := undef) (a' := ?_) (ba 20 131071) rfl rfl (any_of HT_.out qg3m) (fun _ _ _ h => h) (Or.inr ⟨quos, rfl⟩) ?_ ?_
  rotate_left
  ·exact z27_0
  refine pure_ (i := 17) (N := some 22) (v := undef) (a' := ?_) (ba 20 262143) rfl rfl (any_of HT_.out qg3m) (fun _ _ _ h => h) (Or.inr ⟨quos, rfl⟩) ?_ ?_
  rotate_left
  ·exact z27_0
  refine pu_139 (i := 18) (N := some 23) (ba 20 524287) ?_
  refine pu_139 (i := 19) (N := some 4) (ba 20 1048575) ?_
  refine done_ (done_of HT_.out qg3m) ?_
  try go_wp2
  go_ret
  exact ⟨qxu5, qtj3⟩
end Go.Proofs.YtgdjekigkimhnaaGreatDoor.P
