-- slim
-- Written by wip/hprint.py (this session's program) through the kit's print program; hand contracts are marked 'by hand'.
import Derived.Test.YtgdjekigkimhnaaGreatDoorAbb
import Derived.Test.YtgdjekigkimhnaaGreatDoorPx0
import Derived.Test.YtgdjekigkimhnaaGreatDoorPx17
import Derived.Test.YtgdjekigkimhnaaGreatDoorPx18
import Derived.Test.YtgdjekigkimhnaaGreatDoorPx19
import Derived.Test.YtgdjekigkimhnaaGreatDoorPx20
import Derived.Test.YtgdjekigkimhnaaGreatDoorPx21
import Derived.Test.YtgdjekigkimhnaaGreatDoorPx23
import Derived.Test.YtgdjekigkimhnaaGreatDoorPx25
import Derived.Test.YtgdjekigkimhnaaGreatDoorPx28
import Derived.Test.YtgdjekigkimhnaaGreatDoorPx29
namespace Go.Proofs.YtgdjekigkimhnaaGreatDoor.P
open Go.RowKit Go.Proofs.YtgdjekigkimhnaaGreatDoorW.PrintWords Go.Proofs.YtgdjekigkimhnaaGreatDoorW.PrintLast Go.Proofs.YtgdjekigkimhnaaGreatDoorW.PrintMore
attribute [local go_sem] max2_int min2_int max_two min_two max_three min_three max_four min_four   -- for this text's walks alone
set_option linter.unusedVariables false
set_option linter.unusedSimpArgs false

theorem qg9a {p : Prop} (h : p := by (with_reducible repeat (first | refine blk_drewN ?_ _ | refine blk_drew ?_ | refine blk_alloc ?_ _)); exact BK236.out) : p := h
theorem qowo {p : Prop} (h : p := by exact ⟨(blk_cell BK236.out 0).trans rfl, (blk_cell BK236.out 1).trans rfl, (blk_cell BK236.out 2).trans rfl, (blk_cell BK236.out 3).trans rfl⟩) : p := h
theorem qw4y {p : Prop} (h : p := by repeat (first | (with_reducible first | exact HB.out | apply below_alloc | apply pw_below_drewN | apply below_drew1 | refine below_set ?_ GE236.out) | exact HB.out)) : p := h
/-! ### gangwaylaw02_AddrsKinds: function 4 -/
def gangwaylaw02_AddrsKinds.f (k : Nat) (a0 : Int) (a1 : Int) (a2_0 : Int) (a2_1 : Int) (a2_2 : Int) (a2_3 : Int) : Option (Bool) := (gangwaylaw02_fixed.f k).bind fun t237 => (if t237 = true then ((addrs_Group.f a0).bind fun t238 => ((gangwayref02_Group.f a0).bind fun t239 => (if (t238 == t239) = true then ((addrs_Own.f a0).bind fun t240 => ((gangwayref02_Own.f a0).bind fun t241 => (if (t240 == t241) = true then ((addrs_Net.f k a2_0 a2_1).bind fun t242 => ((gangwayref02_Net.f k a2_0 a2_1).bind fun t243 => (if (t242 == t243) = true then ((addrs_In.f k a2_0 a2_1 a1).bind fun t244 => ((gangwayref02_In.f k a2_0 a2_1 a1).bind fun t245 => (if (t244 == t245) = true then ((addrs_Last.f k a2_0 a2_1).bind fun t246 => ((gangwayref02_Last.f k a2_0 a2_1).bind fun t247 => (if t246 = t247 then ((addrs_Near.f k a2_0 a2_1 a2_2 a2_3).bind fun t248 => ((gangwayref02_Near.f k a2_0 a2_1 a2_2 a2_3).bind fun t249 => (some (t248 == t249)))) else (none)))) else (none)))) else (none)))) else (none)))) else (none)))) else (none))
theorem gangwaylaw02_AddrsKinds.mono : ∀ a0 a1 a2 a3 a4 a5 k, LeO (gangwaylaw02_AddrsKinds.f k a0 a1 a2 a3 a4 a5) (gangwaylaw02_AddrsKinds.f (k + 1) a0 a1 a2 a3 a4 a5) := by
 intro a0 a1 a2 a3 a4 a5 k
 unfold gangwaylaw02_AddrsKinds.f
 repeat' first
   | (with_reducible exact addrs_In.mono _ _ _ _)
   | (with_reducible exact addrs_Last.mono _ _ _)
   | (with_reducible exact addrs_Near.mono _ _ _ _ _)
   | (with_reducible exact addrs_Net.mono _ _ _)
   | (with_reducible exact gangwaylaw02_fixed.mono _)
   | (with_reducible exact gangwayref02_In.mono _ _ _ _)
   | (with_reducible exact gangwayref02_Last.mono _ _ _)
   | (with_reducible exact gangwayref02_Near.mono _ _ _ _ _)
   | (with_reducible exact gangwayref02_Net.mono _ _ _)
   | (with_reducible exact LeO.refl _)
   | (with_reducible exact LeO.none _)
   | (with_reducible refine LeO.ite ?_ ?_)
   | (with_reducible refine LeO.bind ?_ (fun _ => ?_))
   | exact addrs_In.mono _ _ _ _
   | exact addrs_Last.mono _ _ _
   | exact addrs_Near.mono _ _ _ _ _
   | exact addrs_Net.mono _ _ _
   | exact gangwaylaw02_fixed.mono _
   | exact gangwayref02_In.mono _ _ _ _
   | exact gangwayref02_Last.mono _ _ _
   | exact gangwayref02_Near.mono _ _ _ _ _
   | exact gangwayref02_Net.mono _ _ _
   | exact LeO.none _
   | refine LeO.ite ?_ ?_
   | refine LeO.bind ?_ (fun _ => ?_)
def gangwaylaw02_AddrsKinds.T1 : Bool × List (List Nat × List Nat) := (true, [([], []), ([0, 0], [0]), ([1], [1]), ([2, 1, 1], [1, 2]), ([1], [1]), ([4, 3, 1], [1, 4]), ([3, 5, 1], [1, 3, 5]), ([1, 6], [1, 6]), ([7, 5], [7]), ([8], [8]), ([9, 8, 8], [8, 9]), ([8], [8]), ([11, 10, 8], [8, 11]), ([10, 12, 8], [8, 10, 12]), ([8, 13], [8, 13]), ([14, 12], [14]), ([15], [15]), ([16, 15], [15, 16]), ([17, 15, 15], [15, 17]), ([15], [15]), ([19, 15], [15, 19]), ([20, 18, 15], [15, 20]), ([18, 21, 15], [15, 18, 21]), ([15, 22], [15, 22]), ([23, 21], [23]), ([24], [24]), ([25, 24], [24, 25]), ([24], [24]), ([26, 27, 24, 24], [24, 26, 27]), ([24], [24]), ([29, 24], [24, 29]), ([24], [24]), ([30, 31, 28, 24], [24, 30, 31]), ([28, 32, 24], [24, 28, 32]), ([24, 33], [24, 33]), ([34, 32], [34]), ([35], [35]), ([36, 35], [35, 36]), ([37, 35, 35], [35, 37]), ([35], [35]), ([39, 35], [35, 39]), ([40, 38, 35], [35, 40]), ([38, 41, 35], [35, 38, 41]), ([35, 42], [35, 42]), ([43, 41], [43]), ([44], [44]), ([45, 44], [44, 45]), ([44], [44]), ([47, 44], [44, 47]), ([46, 48, 44, 44], [44, 46, 48]), ([44], [44]), ([50, 44], [44, 50]), ([44], [44]), ([52, 44], [44, 52]), ([51, 53, 49, 44], [44, 51, 53]), ([49, 54, 44], [44, 49, 54]), ([44, 55], [44, 55]), ([56, 54, 0, 1, 2, 3, 4, 5, 6, 7, 8, 9, 10, 11, 12, 13, 14, 15, 16, 17, 18, 19, 20, 21, 22, 23, 24, 25, 26, 27, 28, 29, 30, 31, 32, 33, 34, 35, 36, 37, 38, 39, 40, 41, 42, 43, 44, 45, 46, 47, 48, 49, 50, 51, 52, 53, 54, 55, 56], [56])])
def gangwaylaw02_AddrsKinds.B1 : List Nat := [0, 1, 3, 7, 3, 31, 63, 127, 255, 511, 1023, 511, 4095, 8191, 16383, 32767, 65535, 131071, 262143, 65535, 589823, 2097151, 4194303, 8388607, 16777215, 33554431, 67108863, 33554431, 268435455, 33554431, 570425343, 33554431, 4294967295, 8589934591, 17179869183, 34359738367, 68719476735, 137438953471, 274877906943, 68719476735, 618475290623, 2199023255551, 4398046511103, 8796093022207, 17592186044415, 35184372088831, 70368744177663, 35184372088831, 175921860444159, 562949953421311, 35184372088831, 1161084278931455, 35184372088831, 4538783999459327, 18014398509481983, 36028797018963967, 72057594037927935, 144115188075855871]
theorem gangwaylaw02_AddrsKinds.tab1 : rtab .any (opsOf Tryz.f4 1) = gangwaylaw02_AddrsKinds.T1 := by kernel_rfl
theorem gangwaylaw02_AddrsKinds.bits1 : waitsOk gangwaylaw02_AddrsKinds.T1.2 gangwaylaw02_AddrsKinds.B1 = true := by kernel_rfl
set_option maxHeartbeats 8000000 in
set_option maxRecDepth 100000 in
theorem gangwaylaw02_AddrsKinds.calls (k : Nat) (a0 : Int) (a1 : Int) (a2_0 : Int) (a2_1 : Int) (a2_2 : Int) (a2_3 : Int) (r : Bool) (w : World) (hL : Laid w) (h : gangwaylaw02_AddrsKinds.f k a0 a1 a2_0 a2_1 a2_2 a2_3 = some r) :
  Calls Tryz.prog 4 #[.int .u64 a0, .int .u32 a1, .agg #[.int .u32 a2_0, .int .i64 a2_1, .int .u32 a2_2, .int .i64 a2_3]] w fun e w' => e = .returned (.bool r) ∧ Below w.heap.size w w' := by
 have HLD := Aside0.mk hL
 clear hL
 have hu36 := Tryz.underlying36
 have hu34 := Tryz.underlying34
 have HB := Aside0.mk (Below.refl w.heap.size w)
 have H := h
 unfold gangwaylaw02_AddrsKinds.f at H
 clear h
 replace H := Option.bind_eq_some_iff.mp H
 obtain ⟨t237, A40, H⟩ := H
 try dsimp only at H
 have A4 := Aside0.mk A40
 clear A40
 by_cases c5 : t237 = true
 ·subst c5
  rw [if_pos rfl] at H
  replace H := Option.bind_eq_some_iff.mp H
  obtain ⟨t238, A60, H⟩ := H
  try dsimp only at H
  have A6 := Aside0.mk A60
  clear A60
  replace H := Option.bind_eq_some_iff.mp H
  obtain ⟨t239, A70, H⟩ := H
  try dsimp only at H
  have A7 := Aside0.mk A70
  clear A70
  by_cases c8 : (t238 == t239) = true
  ·rw [if_pos c8] at H
   have c8b0 : (t238 == t239) = true := c8
   (try (have c8b1 : decide (t238 = t239) = true := by simpa using c8))
   (try (have c8b2 : (t238 == t239) = true := by simpa using c8))
   clear c8
   replace H := Option.bind_eq_some_iff.mp H
   obtain ⟨t240, A90, H⟩ := H
   try dsimp only at H
   have A9 := Aside0.mk A90
   clear A90
   replace H := Option.bind_eq_some_iff.mp H
   obtain ⟨t241, A100, H⟩ := H
   try dsimp only at H
   have A10 := Aside0.mk A100
   clear A100
   by_cases c11 : (t240 == t241) = true
   ·rw [if_pos c11] at H
    have c11b0 : (t240 == t241) = true := c11
    (try (have c11b1 : decide (t240 = t241) = true := by simpa using c11))
    (try (have c11b2 : (t240 == t241) = true := by simpa using c11))
    clear c11
    replace H := Option.bind_eq_some_iff.mp H
    obtain ⟨t242, A120, H⟩ := H
    try dsimp only at H
    have A12 := Aside0.mk A120
    clear A120
    replace H := Option.bind_eq_some_iff.mp H
    obtain ⟨t243, A130, H⟩ := H
    try dsimp only at H
    have A13 := Aside0.mk A130
    clear A130
    by_cases c14 : (t242 == t243) = true
    ·rw [if_pos c14] at H
     have c14b0 : (t242 == t243) = true := c14
     (try (have c14b1 : decide (t242 = t243) = true := by simpa using c14))
     (try (have c14b2 : (t242 == t243) = true := by simpa using c14))
     clear c14
     replace H := Option.bind_eq_some_iff.mp H
     obtain ⟨t244, A150, H⟩ := H
     try dsimp only at H
     have A15 := Aside0.mk A150
     clear A150
     replace H := Option.bind_eq_some_iff.mp H
     obtain ⟨t245, A160, H⟩ := H
     try dsimp only at H
     have A16 := Aside0.mk A160
     clear A160
     by_cases c17 : (t244 == t245) = true
     ·rw [if_pos c17] at H
      have c17b0 : (t244 == t245) = true := c17
      (try (have c17b1 : decide (t244 = t245) = true := by simpa using c17))
      (try (have c17b2 : (t244 == t245) = true := by simpa using c17))
      clear c17
      replace H := Option.bind_eq_some_iff.mp H
      obtain ⟨t246, A180, H⟩ := H
      try dsimp only at H
      have A18 := Aside0.mk A180
      clear A180
      replace H := Option.bind_eq_some_iff.mp H
      obtain ⟨t247, A190, H⟩ := H
      try dsimp only at H
      have A19 := Aside0.mk A190
      clear A190
      by_cases c20 : t246 = t247
      ·rw [if_pos c20] at H
       have c20b0 : (t246 == t247) = true := beq_iff_eq.mpr c20
       have c20b1 : (t246 != t247) = false := bne_eq_false_iff_eq.mpr c20
       clear c20
       replace H := Option.bind_eq_some_iff.mp H
       obtain ⟨t248, A210, H⟩ := H
       try dsimp only at H
       have A21 := Aside0.mk A210
       clear A210
       replace H := Option.bind_eq_some_iff.mp H
       obtain ⟨t249, A220, H⟩ := H
       try dsimp only at H
       have A22 := Aside0.mk A220
       clear A220
       obtain rfl := Option.some.inj H
       go_enter Tryz.func4, Tryz.ntmps4
       try go_wp2_with (first | ((with_reducible refine gate_dst (N := 5) rfl ?_); refine box_event qgcr (N := 5) qgcr (cs := #[.int .u32 a2_0, .int .i64 a2_1, .int .u32 a2_2, .int .i64 a2_3]) (t := 36) qlto ?_; intro gb236 hg w23 hbox hb; have BK236 := Aside0.mk (hbox); have GE236 := Aside0.mk ((qisx : w.heap.size ≤ gb236)); replace HB := Aside0.mk (below_step qpag hb); clear hb hbox hg))
       replace BK236 := Aside0.mk (blk_drew BK236.out)
       replace HB := Aside0.mk (below_drew1 HB.out)
       refine start_ (n := 58) (S := fun w' => w'.cell? ⟨gb236, 0, none⟩ = some (.int .u32 a2_0) ∧ w'.cell? ⟨gb236, 1, none⟩ = some (.int .i64 a2_1) ∧ w'.cell? ⟨gb236, 2, none⟩ = some (.int .u32 a2_2) ∧ w'.cell? ⟨gb236, 3, none⟩ = some (.int .i64 a2_3)) (ds := []) (ba 58 0) qg3m rfl rfl ⟨(blk_cell BK236.out 0).trans rfl, (blk_cell BK236.out 1).trans rfl, (blk_cell BK236.out 2).trans rfl, (blk_cell BK236.out 3).trans rfl⟩ (fun hHeld => ?_); refine with_tabW gangwaylaw02_AddrsKinds.tab1 gangwaylaw02_AddrsKinds.bits1 (fun HT_ HW_ => ?_)
       generalize w23.drew = w24 at BK236 HB hHeld ⊢
       refine one_ (i := 0) (N := some 7) (ba 58 1) rfl rfl (one_of HT_.out qg3m) qomw (fun K hK => ?_)
       refine goes_ Tryz.func13 qg3m rfl #[] qlo1 rfl rfl qraq ?_
       with_reducible refine (gangwaylaw02_fixed.calls k  true _ ?sideL A4.out).mono ?_
       case sideL => exact laid_below HLD.out qw4y
       rintro e w25 ⟨rfl, hb⟩
       refine ⟨_, rfl, ?_⟩
       replace BK236 := Aside0.mk (blk_below (g := gb236) (o := .cells #[.int .u32 a2_0, .int .i64 a2_1, .int .u32 a2_2, .int .i64 a2_3] 36 (0, 0)) qg9a hb)
       replace HB := Aside0.mk (below_step qw4y hb)
       (try clear hb)
       (try clear hb2)
       (try clear hk)
       (try clear hi)
       refine hK.out _ _ qowo (fun hHeld => ?_)
       clear hK K
       refine norm_ (a' := ?_) ?_ ?_
       rotate_left
       ·show Act.put _ (some 7) _ = _
        simp only [Act.put, List.setIfInBounds_toArray, List.set_cons_zero, List.set_cons_succ, i64_w, i32_w]
        rfl
       refine pu_139 (i := 1) (N := some 8) (ba 58 3) ?_
       refine pu_139 (i := 2) (N := some 9) (ba 58 7) ?_
       refine pu_139 (i := 4) (N := some 11) (ba 58 23) ?_
       refine one_ (i := 3) (N := some 10) (ba 58 31) rfl rfl (one_of HT_.out qg3m) qomw (fun K hK => ?_)
       refine goes_ Tryz.func18 qg3m rfl #[.int .u64 a0] qlo1 rfl rfl qraq ?_
       with_reducible refine (addrs_Group.calls a0 t238 _ A6.out).mono ?_
       rintro e w' ⟨rfl, ⟨nd, rfl⟩⟩
       refine ⟨_, rfl, ?_⟩
       refine hK.out _ _ qowo (fun hHeld => ?_)
       clear hK K
       refine norm_ (a' := ?_) ?_ ?_
       rotate_left
       ·show Act.put _ (some 10) _ = _
        simp only [Act.put, List.setIfInBounds_toArray, List.set_cons_zero, List.set_cons_succ, i64_w, i32_w]
        rfl
       refine one_ (i := 5) (N := some 12) (ba 58 63) rfl rfl (one_of HT_.out qg3m) qomw (fun K hK => ?_)
       refine goes_ Tryz.func19 qg3m rfl #[.int .u64 a0] qlo1 rfl rfl qraq ?_
       with_reducible refine (gangwayref02_Group.calls a0 t239 _ A7.out).mono ?_
       rintro e w' ⟨rfl, ⟨nd, rfl⟩⟩
       refine ⟨_, rfl, ?_⟩
       refine hK.out _ _ qowo (fun hHeld => ?_)
       clear hK K
       refine norm_ (a' := ?_) ?_ ?_
       rotate_left
       ·show Act.put _ (some 12) _ = _
        simp only [Act.put, List.setIfInBounds_toArray, List.set_cons_zero, List.set_cons_succ, i64_w, i32_w]
        rfl
       refine pu_139 (i := 6) (N := some 13) (ba 58 127) ?_
       refine pu_139 (i := 7) (N := some 14) (ba 58 255) ?_
       refine pu_139 (i := 8) (N := some 15) (ba 58 511) ?_
       refine pu_139 (i := 9) (N := some 16) (ba 58 1023) ?_
       refine pu_139 (i := 11) (N := some 18) (ba 58 3071) ?_
       refine one_ (i := 10) (N := some 17) (ba 58 4095) rfl rfl (one_of HT_.out qg3m) qomw (fun K hK => ?_)
       refine goes_ Tryz.func20 qg3m rfl #[.int .u64 a0] qlo1 rfl rfl qraq ?_
       with_reducible refine (addrs_Own.calls a0 t240 _ A9.out).mono ?_
       rintro e w' ⟨rfl, ⟨nd, rfl⟩⟩
       refine ⟨_, rfl, ?_⟩
       refine hK.out _ _ qowo (fun hHeld => ?_)
       clear hK K
       refine norm_ (a' := ?_) ?_ ?_
       rotate_left
       ·show Act.put _ (some 17) _ = _
        simp only [Act.put, List.setIfInBounds_toArray, List.set_cons_zero, List.set_cons_succ, i64_w, i32_w]
        rfl
       refine one_ (i := 12) (N := some 19) (ba 58 8191) rfl rfl (one_of HT_.out qg3m) qomw (fun K hK => ?_)
       refine goes_ Tryz.func21 qg3m rfl #[.int .u64 a0] qlo1 rfl rfl qraq ?_
       with_reducible refine (gangwayref02_Own.calls a0 t241 _ A10.out).mono ?_
       rintro e w' ⟨rfl, ⟨nd, rfl⟩⟩
       refine ⟨_, rfl, ?_⟩
       refine hK.out _ _ qowo (fun hHeld => ?_)
       clear hK K
       refine norm_ (a' := ?_) ?_ ?_
       rotate_left
       ·show Act.put _ (some 19) _ = _
        simp only [Act.put, List.setIfInBounds_toArray, List.set_cons_zero, List.set_cons_succ, i64_w, i32_w]
        rfl
       refine pu_139 (i := 13) (N := some 20) (ba 58 16383) ?_
       refine pu_139 (i := 14) (N := some 21) (ba 58 32767) ?_
       refine pu_139 (i := 15) (N := some 22) (ba 58 65535) ?_
       refine pu_139 (i := 16) (N := some 23) (ba 58 131071) ?_
       refine pu_139 (i := 19) (N := some 26) (ba 58 655359) ?_
       refine tk_15c (i := 17) (N := some 24) (ba 58 786431) hHeld ?_
       refine tk_15c (i := 20) (N := some 27) (ba 58 1835007) hHeld ?_
       refine one_ (i := 18) (N := some 25) (ba 58 2097151) rfl rfl (one_of HT_.out qg3m) qomw (fun K hK => ?_)
       refine goes_ Tryz.func22 qg3m rfl #[.agg #[.int .u32 a2_0, .int .i64 a2_1]] qlo1 rfl rfl qraq ?_
       with_reducible refine (addrs_Net.calls k a2_0 a2_1 t242 _ A12.out).mono ?_
       rintro e w26 ⟨rfl, hb⟩
       refine ⟨_, rfl, ?_⟩
       replace BK236 := Aside0.mk (blk_below (g := gb236) (o := .cells #[.int .u32 a2_0, .int .i64 a2_1, .int .u32 a2_2, .int .i64 a2_3] 36 (0, 0)) qg9a hb)
       replace HB := Aside0.mk (below_step qw4y hb)
       (try clear hb)
       (try clear hb2)
       (try clear hk)
       (try clear hi)
       refine hK.out _ _ qowo (fun hHeld => ?_)
       clear hK K
       refine norm_ (a' := ?_) ?_ ?_
       rotate_left
       ·show Act.put _ (some 25) _ = _
        simp only [Act.put, List.setIfInBounds_toArray, List.set_cons_zero, List.set_cons_succ, i64_w, i32_w]
        rfl
       refine one_ (i := 21) (N := some 28) (ba 58 4194303) rfl rfl (one_of HT_.out qg3m) qomw (fun K hK => ?_)
       refine goes_ Tryz.func23 qg3m rfl #[.agg #[.int .u32 a2_0, .int .i64 a2_1]] qlo1 rfl rfl qraq ?_
       with_reducible refine (gangwayref02_Net.calls k a2_0 a2_1 t243 _ A13.out).mono ?_
       rintro e w27 ⟨rfl, hb⟩
       refine ⟨_, rfl, ?_⟩
       replace BK236 := Aside0.mk (blk_below (g := gb236) (o := .cells #[.int .u32 a2_0, .int .i64 a2_1, .int .u32 a2_2, .int .i64 a2_3] 36 (0, 0)) qg9a hb)
       replace HB := Aside0.mk (below_step qw4y hb)
       (try clear hb)
       (try clear hb2)
       (try clear hk)
       (try clear hi)
       refine hK.out _ _ qowo (fun hHeld => ?_)
       clear hK K
       refine norm_ (a' := ?_) ?_ ?_
       rotate_left
       ·show Act.put _ (some 28) _ = _
        simp only [Act.put, List.setIfInBounds_toArray, List.set_cons_zero, List.set_cons_succ, i64_w, i32_w]
        rfl
       refine pu_139 (i := 22) (N := some 29) (ba 58 8388607) ?_
       refine pu_139 (i := 23) (N := some 30) (ba 58 16777215) ?_
       refine pu_139 (i := 24) (N := some 31) (ba 58 33554431) ?_
       refine pu_139 (i := 25) (N := some 32) (ba 58 67108863) ?_
       refine pu_139 (i := 27) (N := some 34) (ba 58 201326591) ?_
       refine pu_139 (i := 29) (N := some 36) (ba 58 738197503) ?_
       refine pu_139 (i := 31) (N := some 38) (ba 58 2885681151) ?_
       refine tk_15c (i := 26) (N := some 33) (ba 58 2952790015) hHeld ?_
       refine tk_15c (i := 30) (N := some 37) (ba 58 4026531839) hHeld ?_
       refine one_ (i := 28) (N := some 35) (ba 58 4294967295) rfl rfl (one_of HT_.out qg3m) qomw (fun K hK => ?_)
       refine goes_ Tryz.func24 qg3m rfl #[.agg #[.int .u32 a2_0, .int .i64 a2_1], .int .u32 a1] qlo1 rfl rfl qraq ?_
       with_reducible refine (addrs_In.calls k a2_0 a2_1 a1 t244 _ A15.out).mono ?_
       rintro e w28 ⟨rfl, hb⟩
       refine ⟨_, rfl, ?_⟩
       replace BK236 := Aside0.mk (blk_below (g := gb236) (o := .cells #[.int .u32 a2_0, .int .i64 a2_1, .int .u32 a2_2, .int .i64 a2_3] 36 (0, 0)) qg9a hb)
       replace HB := Aside0.mk (below_step qw4y hb)
       (try clear hb)
       (try clear hb2)
       (try clear hk)
       (try clear hi)
       refine hK.out _ _ qowo (fun hHeld => ?_)
       clear hK K
       refine norm_ (a' := ?_) ?_ ?_
       rotate_left
       ·show Act.put _ (some 35) _ = _
        simp only [Act.put, List.setIfInBounds_toArray, List.set_cons_zero, List.set_cons_succ, i64_w, i32_w]
        rfl
       refine one_ (i := 32) (N := some 39) (ba 58 8589934591) rfl rfl (one_of HT_.out qg3m) qomw (fun K hK => ?_)
       refine goes_ Tryz.func25 qg3m rfl #[.agg #[.int .u32 a2_0, .int .i64 a2_1], .int .u32 a1] qlo1 rfl rfl qraq ?_
       with_reducible refine (gangwayref02_In.calls k a2_0 a2_1 a1 t245 _ A16.out).mono ?_
       rintro e w29 ⟨rfl, hb⟩
       refine ⟨_, rfl, ?_⟩
       replace BK236 := Aside0.mk (blk_below (g := gb236) (o := .cells #[.int .u32 a2_0, .int .i64 a2_1, .int .u32 a2_2, .int .i64 a2_3] 36 (0, 0)) qg9a hb)
       replace HB := Aside0.mk (below_step qw4y hb)
       (try clear hb)
       (try clear hb2)
       (try clear hk)
       (try clear hi)
       refine hK.out _ _ qowo (fun hHeld => ?_)
       clear hK K
       refine norm_ (a' := ?_) ?_ ?_
       rotate_left
       ·show Act.put _ (some 39) _ = _
        simp only [Act.put, List.setIfInBounds_toArray, List.set_cons_zero, List.set_cons_succ, i64_w, i32_w]
        rfl
       refine pu_139 (i := 33) (N := some 40) (ba 58 17179869183) ?_
       refine pu_139 (i := 34) (N := some 41) (ba 58 34359738367) ?_
       refine pu_139 (i := 35) (N := some 42) (ba 58 68719476735) ?_
       refine pu_139 (i := 36) (N := some 43) (ba 58 137438953471) ?_
       refine pu_139 (i := 39) (N := some 46) (ba 58 687194767359) ?_
       refine tk_15c (i := 37) (N := some 44) (ba 58 824633720831) hHeld ?_
       refine tk_15c (i := 40) (N := some 47) (ba 58 1924145348607) hHeld ?_
       refine one_ (i := 38) (N := some 45) (ba 58 2199023255551) rfl rfl (one_of HT_.out qg3m) qomw (fun K hK => ?_)
       refine goes_ Tryz.func26 qg3m rfl #[.agg #[.int .u32 a2_0, .int .i64 a2_1]] qlo1 rfl rfl qraq ?_
       with_reducible refine (addrs_Last.calls k a2_0 a2_1 t246 _ A18.out).mono ?_
       rintro e w30 ⟨rfl, hb⟩
       refine ⟨_, rfl, ?_⟩
       replace BK236 := Aside0.mk (blk_below (g := gb236) (o := .cells #[.int .u32 a2_0, .int .i64 a2_1, .int .u32 a2_2, .int .i64 a2_3] 36 (0, 0)) qg9a hb)
       replace HB := Aside0.mk (below_step qw4y hb)
       (try clear hb)
       (try clear hb2)
       (try clear hk)
       (try clear hi)
       refine hK.out _ _ qowo (fun hHeld => ?_)
       clear hK K
       refine norm_ (a' := ?_) ?_ ?_
       rotate_left
       ·show Act.put _ (some 45) _ = _
        simp only [Act.put, List.setIfInBounds_toArray, List.set_cons_zero, List.set_cons_succ, i64_w, i32_w]
        rfl
       refine one_ (i := 41) (N := some 48) (ba 58 4398046511103) rfl rfl (one_of HT_.out qg3m) qomw (fun K hK => ?_)
       refine goes_ Tryz.func27 qg3m rfl #[.agg #[.int .u32 a2_0, .int .i64 a2_1]] qlo1 rfl rfl qraq ?_
       with_reducible refine (gangwayref02_Last.calls k a2_0 a2_1 t247 _ A19.out).mono ?_
       rintro e w31 ⟨rfl, hb⟩
       refine ⟨_, rfl, ?_⟩
       replace BK236 := Aside0.mk (blk_below (g := gb236) (o := .cells #[.int .u32 a2_0, .int .i64 a2_1, .int .u32 a2_2, .int .i64 a2_3] 36 (0, 0)) qg9a hb)
       replace HB := Aside0.mk (below_step qw4y hb)
       (try clear hb)
       (try clear hb2)
       (try clear hk)
       (try clear hi)
       refine hK.out _ _ qowo (fun hHeld => ?_)
       clear hK K
       refine norm_ (a' := ?_) ?_ ?_
       rotate_left
       ·show Act.put _ (some 48) _ = _
        simp only [Act.put, List.setIfInBounds_toArray, List.set_cons_zero, List.set_cons_succ, i64_w, i32_w]
        rfl
       refine pu_139 (i := 42) (N := some 49) (ba 58 8796093022207) ?_
       refine pu_139 (i := 43) (N := some 50) (ba 58 17592186044415) ?_
       refine pu_139 (i := 44) (N := some 51) (ba 58 35184372088831) ?_
       refine pu_139 (i := 45) (N := some 52) (ba 58 70368744177663) ?_
       refine pu_139 (i := 47) (N := some 54) (ba 58 211106232532991) ?_
       refine pu_139 (i := 50) (N := some 57) (ba 58 1337006139375615) ?_
       refine pu_139 (i := 52) (N := some 59) (ba 58 5840605766746111) ?_
       refine tk_15c (i := 46) (N := some 53) (ba 58 5910974510923775) hHeld ?_
       refine tk_15c (i := 48) (N := some 55) (ba 58 6192449487634431) hHeld ?_
       refine tk_15c (i := 51) (N := some 58) (ba 58 8444249301319679) hHeld ?_
       refine tk_15c (i := 53) (N := some 60) (ba 58 17451448556060671) hHeld ?_
       refine one_ (i := 49) (N := some 56) (ba 58 18014398509481983) rfl rfl (one_of HT_.out qg3m) qomw (fun K hK => ?_)
       refine goes_ Tryz.func28 qg3m rfl #[.agg #[.int .u32 a2_0, .int .i64 a2_1], .agg #[.int .u32 a2_2, .int .i64 a2_3]] qlo1 rfl rfl qraq ?_
       with_reducible refine (addrs_Near.calls k a2_0 a2_1 a2_2 a2_3 t248 _ A21.out).mono ?_
       rintro e w32 ⟨rfl, hb⟩
       refine ⟨_, rfl, ?_⟩
       replace BK236 := Aside0.mk (blk_below (g := gb236) (o := .cells #[.int .u32 a2_0, .int .i64 a2_1, .int .u32 a2_2, .int .i64 a2_3] 36 (0, 0)) qg9a hb)
       replace HB := Aside0.mk (below_step qw4y hb)
       (try clear hb)
       (try clear hb2)
       (try clear hk)
       (try clear hi)
       refine hK.out _ _ qowo (fun hHeld => ?_)
       clear hK K
       refine norm_ (a' := ?_) ?_ ?_
       rotate_left
       ·show Act.put _ (some 56) _ = _
        simp only [Act.put, List.setIfInBounds_toArray, List.set_cons_zero, List.set_cons_succ, i64_w, i32_w]
        rfl
       refine one_ (i := 54) (N := some 61) (ba 58 36028797018963967) rfl rfl (one_of HT_.out qg3m) qomw (fun K hK => ?_)
       refine goes_ Tryz.func29 qg3m rfl #[.agg #[.int .u32 a2_0, .int .i64 a2_1], .agg #[.int .u32 a2_2, .int .i64 a2_3]] qlo1 rfl rfl qraq ?_
       with_reducible refine (gangwayref02_Near.calls k a2_0 a2_1 a2_2 a2_3 t249 _ A22.out).mono ?_
       rintro e w33 ⟨rfl, hb⟩
       refine ⟨_, rfl, ?_⟩
       replace BK236 := Aside0.mk (blk_below (g := gb236) (o := .cells #[.int .u32 a2_0, .int .i64 a2_1, .int .u32 a2_2, .int .i64 a2_3] 36 (0, 0)) qg9a hb)
       replace HB := Aside0.mk (below_step qw4y hb)
       (try clear hb)
       (try clear hb2)
       (try clear hk)
       (try clear hi)
       refine hK.out _ _ qowo (fun hHeld => ?_)
       clear hK K
       refine norm_ (a' := ?_) ?_ ?_
       rotate_left
       ·show Act.put _ (some 61) _ = _
        simp only [Act.put, List.setIfInBounds_toArray, List.set_cons_zero, List.set_cons_succ, i64_w, i32_w]
        rfl
       refine pu_139 (i := 55) (N := some 62) (ba 58 72057594037927935) ?_
       refine pu_139 (i := 56) (N := some 63) (ba 58 144115188075855871) ?_
       refine pu_139 (i := 57) (N := some 6) (ba 58 288230376151711743) ?_
       refine done_ (done_of HT_.out qg3m) ?_
       try go_wp2
       go_ret
       exact ⟨qxu5, qw4y⟩
      ·rw [if_neg c20] at H
       have c20b0 : (t246 == t247) = false := beq_eq_false_iff_ne.mpr c20
       have c20b1 : (t246 != t247) = true := bne_iff_ne.mpr c20
       exact absurd H q6hr
     ·rw [if_neg c17] at H
      have c17b0 : (t244 == t245) = false := by simpa using c17
      (try (have c17b1 : decide (t244 = t245) = false := by simpa using c17))
      (try (have c17b2 : (t244 == t245) = false := by simpa using c17))
      (try (have c17b3 : ¬ (t244 = t245) := by simpa using c17))
      clear c17
      exact absurd H q6hr
    ·rw [if_neg c14] at H
     have c14b0 : (t242 == t243) = false := by simpa using c14
     (try (have c14b1 : decide (t242 = t243) = false := by simpa using c14))
     (try (have c14b2 : (t242 == t243) = false := by simpa using c14))
     (try (have c14b3 : ¬ (t242 = t243) := by simpa using c14))
     clear c14
     exact absurd H q6hr
   ·rw [if_neg c11] at H
    have c11b0 : (t240 == t241) = false := by simpa using c11
    (try (have c11b1 : decide (t240 = t241) = false := by simpa using c11))
    (try (have c11b2 : (t240 == t241) = false := by simpa using c11))
    (try (have c11b3 : ¬ (t240 = t241) := by simpa using c11))
    clear c11
    exact absurd H q6hr
  ·rw [if_neg c8] at H
   have c8b0 : (t238 == t239) = false := by simpa using c8
   (try (have c8b1 : decide (t238 = t239) = false := by simpa using c8))
   (try (have c8b2 : (t238 == t239) = false := by simpa using c8))
   (try (have c8b3 : ¬ (t238 = t239) := by simpa using c8))
   clear c8
   exact absurd H q6hr
 ·replace c5 := Bool.eq_false_iff.mpr c5
  subst c5
  rw [if_neg (show ¬ (false = true) by decide)] at H
  exact absurd H q6hr

end Go.Proofs.YtgdjekigkimhnaaGreatDoor.P
