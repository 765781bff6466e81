-- slim
-- Written by wip/hprint.py (this session's program) through the kit's print program; hand contracts are marked 'by hand'.
import Derived.Test.YtbkgaplldfilnaaDoorAbb
import Derived.Test.YtbkgaplldfilnaaDoorPx0
import Derived.Test.YtbkgaplldfilnaaDoorPx13
import Derived.Test.YtbkgaplldfilnaaDoorRow
import Derived.Test.YtbkgaplldfilnaaDoorPx24
import Derived.Test.YtbkgaplldfilnaaDoorPx35
namespace Go.Proofs.YtbkgaplldfilnaaDoor.P
open Go.RowKit Go.Proofs.YtbkgaplldfilnaaDoorW.PrintWords Go.Proofs.YtbkgaplldfilnaaDoorW.PrintLast Go.Proofs.YtbkgaplldfilnaaDoorW.PrintMore
attribute [local go_sem] max2_int min2_int max_two min_two max_three min_three max_four min_four   -- for this text's walks alone
set_option linter.unusedVariables false
set_option linter.unusedSimpArgs false

/-! ### gangwayref06_num: function 39 -/
def gangwayref06_num.f (k : Nat) (a0 : ByteArray) (a1 : Int) (a2 : Int) : Option (Int) := if 0 ≤ a1 then (if a1 ≤ a2 then (if a2 ≤ (a0.size : Int) then ((gangwayref01_Num.f k (a0.extract (a1 : Int).toNat (a2 : Int).toNat)).bind fun t284 => (some (wrap64 (t284)))) else (none)) else (none)) else (none)
theorem gangwayref06_num.mono : ∀ a0 a1 a2 k, LeO (gangwayref06_num.f k a0 a1 a2) (gangwayref06_num.f (k + 1) a0 a1 a2) := by
 intro a0 a1 a2 k
 unfold gangwayref06_num.f
 repeat' first
   | (with_reducible exact gangwayref01_Num.mono _ _)
   | (with_reducible exact LeO.refl _)
   | (with_reducible exact LeO.none _)
   | (with_reducible refine LeO.ite ?_ ?_)
   | (with_reducible refine LeO.bind ?_ (fun _ => ?_))
   | exact gangwayref01_Num.mono _ _
   | exact LeO.none _
   | refine LeO.ite ?_ ?_
   | refine LeO.bind ?_ (fun _ => ?_)
set_option maxHeartbeats 8000000 in
set_option maxRecDepth 100000 in
theorem gangwayref06_num.calls (k : Nat) (a0 : ByteArray) (a1 : Int) (a2 : Int) (r : Int) (w : World) (h : gangwayref06_num.f k a0 a1 a2 = some r) :
  Calls Tryd.prog 39 #[.string a0, .int .i64 a1, .int .i64 a2] w fun e w' => e = .returned (.int .i64 r) ∧ Drawn0 w w' := by
 have H := h
 unfold gangwayref06_num.f at H
 clear h
 by_cases c4 : 0 ≤ a1
 ·rw [if_pos c4] at H
  have c4b0 := eq_true c4
  have c4b1 : decide (0 ≤ a1) = true := decide_eq_true c4
  clear c4
  by_cases c5 : a1 ≤ a2
  ·rw [if_pos c5] at H
   have c5b0 := eq_true c5
   have c5b1 : decide (a1 ≤ a2) = true := decide_eq_true c5
   clear c5
   by_cases c6 : a2 ≤ (a0.size : Int)
   ·rw [if_pos c6] at H
    have c6b0 := eq_true c6
    have c6b1 : decide (a2 ≤ (a0.size : Int)) = true := decide_eq_true c6
    clear c6
    replace H := Option.bind_eq_some_iff.mp H
    obtain ⟨t284, A70, H⟩ := H
    try dsimp only at H
    have A7 := Aside0.mk A70
    clear A70
    obtain rfl := Option.some.inj H
    go_enter Tryd.func39, Tryd.ntmps39
    go_wp2_with (first | ((with_reducible refine gate_callee (f := 40) rfl ?_); refine goesL_ (some 11) rfl rfl Tryd.func40 qg3m rfl #[.string (a0.extract (a1 : Int).toNat (a2 : Int).toNat)] rfl qraq ?_; (with_reducible refine (gangwayref01_Num.calls k (a0.extract (a1 : Int).toNat (a2 : Int).toNat) t284 _ A7.out).mono ?_); rintro e w' ⟨rfl, ⟨nd, rfl⟩⟩; refine ⟨_, rfl, ?_⟩))
    go_ret
    exact ⟨q8z4, qlmv⟩
   ·rw [if_neg c6] at H
    exact absurd H q6hr
  ·rw [if_neg c5] at H
   exact absurd H q6hr
 ·rw [if_neg c4] at H
  exact absurd H q6hr

attribute [local go_sem] max2_int min2_int max_two min_two max_three min_three max_four min_four   -- for this text's walks alone
set_option linter.unusedVariables false
set_option linter.unusedSimpArgs false

theorem eqA35 (d : Nat) (w : World) (x0 y0 : Int) (x1 y1 : Int) (x2 y2 : Int) (x3 y3 : Int) (x4 y4 : Int) :
  (Op.equalIn (d + 2) 35 (.agg #[.int .i64 x0, .int .u64 x1, .int .u32 x2, .int .u64 x3, .int .u32 x4]) (.agg #[.int .i64 y0, .int .u64 y1, .int .u32 y2, .int .u64 y3, .int .u32 y4])).run Tryd.prog w = .ok (x0 == y0 && (x1 == y1 && (x2 == y2 && (x3 == y3 && (x4 == y4))))) w := by
 refine eqA_of Tryd.underlying35 qg3m ?_
 refine eqf_cons qgcr qk3u qk3u (by go_simp) ?_
 refine eqf_cons qgcr qk3u qk3u (by go_simp) ?_
 refine eqf_cons qgcr qk3u qk3u (by go_simp) ?_
 refine eqf_cons qgcr qk3u qk3u (by go_simp) ?_
 exact eqf_last qgcr qk3u qk3u (by go_simp)
attribute [local go_sem] max2_int min2_int max_two min_two max_three min_three max_four min_four   -- for this text's walks alone
set_option linter.unusedVariables false
set_option linter.unusedSimpArgs false

theorem q0t4 {p : Prop} (h : p := by (with_reducible repeat (first | refine blk_drewN ?_ _ | refine blk_drew ?_ | refine blk_alloc ?_ _)); exact BK303.out) : p := h
theorem qkuz {p : Prop} (h : p := by (try simp only [List.map_toArray, List.map_cons, List.map_nil]); first | done | (simp only [hji24]; rfl) | rfl | (simp only [List.length_drop, List.length_take]; rfl)) : p := h
theorem q4ja {p : Prop} (h : p := by repeat (first | (with_reducible first | exact HB.out | apply below_alloc | apply pw_below_drewN | apply below_drew1) | exact HB.out | exact ⟨HB.out.os, HB.out.tape, HB.out.output, HB.out.size, HB.out.block⟩)) : p := h
theorem q4lr {p : Prop} (h : p := by repeat (first | (with_reducible first | exact HB.out | apply below_alloc | apply pw_below_drewN | apply below_drew1 | refine below_set ?_ GEz0.out) | exact HB.out | exact ⟨HB.out.os, HB.out.tape, HB.out.output, HB.out.size, HB.out.block⟩)) : p := h
theorem qx9r {p : Prop} (h : p := by repeat (first | (with_reducible first | exact HB.out | apply below_alloc | apply pw_below_drewN | apply below_drew1 | refine below_set ?_ GE303.out) | exact HB.out | exact ⟨HB.out.os, HB.out.tape, HB.out.output, HB.out.size, HB.out.block⟩)) : p := h
theorem q0xf {p : Prop} (h : p := by (with_reducible repeat (first | refine blk_drewN ?_ _ | refine blk_drew ?_ | refine blk_alloc ?_ _)); exact put4_0_4 q0t4) : p := h
/-! ### gangwayref07_Parse: function 21 -/
def gangwayref07_Parse.j0 : Nat → ByteArray → Int → Int → Bool → Option (Int × Int × Bool × ByteArray × Int)
 | 0, _, _, _, _ => none
 | k + 1, x2, x8, x9, x42 => if x42 = true then (some (0, 0, false, (⟨#[]⟩ : ByteArray), 72)) else (if 0 ≤ 2 then (if 2 ≤ (x2.size : Int) then ((gangwayref01_Num.f k (x2.extract 0 2)).bind fun t308 => (if 2 ≤ 4 then (if 4 ≤ (x2.size : Int) then ((gangwayref01_Num.f k (x2.extract 2 4)).bind fun t309 => (if 8 ≤ x8 then (if x8 ≤ (x2.size : Int) then (some (wrap64 (t308), wrap64 (t309), (x9 == 0), x2.extract 8 (x8 : Int).toNat, 0)) else (none)) else (none))) else (none)) else (none))) else (none)) else (none))
def gangwayref07_Parse.f (k : Nat) (a0 : Int) (a1 : Int) (a2 : ByteArray) : Option (Int × Int × Bool × ByteArray × Int) := if (a2.size : Int) < 8 then (some (0, 0, false, (⟨#[]⟩ : ByteArray), 70)) else (if 4 ≤ 6 then (if 6 ≤ (a2.size : Int) then ((gangwayref01_Num.f k (a2.extract 4 6)).bind fun t304 => (if (wrap64 (t304)) < 8 then (some (0, 0, false, (⟨#[]⟩ : ByteArray), 71)) else (if (wrap64 (t304)) > (a2.size : Int) then (some (0, 0, false, (⟨#[]⟩ : ByteArray), 70)) else (if 6 ≤ 8 then (if 8 ≤ (a2.size : Int) then ((gangwayref01_Num.f k (a2.extract 6 8)).bind fun t305 => (if t305 = 0 then (gangwayref07_Parse.j0 k a2 (wrap64 (t304)) t305 false) else ((gangwayref03_Head.f k a0 a1 17 (wrap64 (t304))).bind fun t306 => (if 0 ≤ (wrap64 (t304)) then (if (wrap64 (t304)) ≤ (a2.size : Int) then (if t306.size + (a2.extract 0 ((wrap64 (t304)) : Int).toNat).size ≤ 9223372036854775807 then ((gangwayref03_Of.f k (t306 ++ (a2.extract 0 ((wrap64 (t304)) : Int).toNat))).bind fun t307 => (gangwayref07_Parse.j0 k a2 (wrap64 (t304)) t305 (t307 != 0))) else (none)) else (none)) else (none))))) else (none)) else (none))))) else (none)) else (none))
theorem gangwayref07_Parse.mono_l : ∀ k, (∀ y0 y1 y2 y3, LeO (gangwayref07_Parse.j0 k y0 y1 y2 y3) (gangwayref07_Parse.j0 (k + 1) y0 y1 y2 y3))
 | 0 => fun _ _ _ _ r h => by simp [gangwayref07_Parse.j0] at h
 | k + 1 => by
  have ih0 := gangwayref07_Parse.mono_l k
  ·intro y0 y1 y2 y3
   unfold gangwayref07_Parse.j0
   repeat' first
   | (with_reducible exact ih0 _ _ _ _)
   | (with_reducible exact gangwayref01_Num.mono _ _)
   | (with_reducible exact gangwayref03_Head.mono _ _ _ _ _)
   | (with_reducible exact gangwayref03_Of.mono _ _)
   | (with_reducible exact LeO.refl _)
   | (with_reducible exact LeO.none _)
   | (with_reducible refine LeO.ite ?_ ?_)
   | (with_reducible refine LeO.bind ?_ (fun _ => ?_))
   | exact ih0 _ _ _ _
   | exact gangwayref01_Num.mono _ _
   | exact gangwayref03_Head.mono _ _ _ _ _
   | exact gangwayref03_Of.mono _ _
   | exact LeO.none _
   | refine LeO.ite ?_ ?_
   | refine LeO.bind ?_ (fun _ => ?_)
theorem gangwayref07_Parse.mono : ∀ a0 a1 a2 k, LeO (gangwayref07_Parse.f k a0 a1 a2) (gangwayref07_Parse.f (k + 1) a0 a1 a2) := by
 intro a0 a1 a2 k
 have ih0 := gangwayref07_Parse.mono_l k
 unfold gangwayref07_Parse.f
 repeat' first
   | (with_reducible exact ih0 _ _ _ _)
   | (with_reducible exact gangwayref01_Num.mono _ _)
   | (with_reducible exact gangwayref03_Head.mono _ _ _ _ _)
   | (with_reducible exact gangwayref03_Of.mono _ _)
   | (with_reducible exact LeO.refl _)
   | (with_reducible exact LeO.none _)
   | (with_reducible refine LeO.ite ?_ ?_)
   | (with_reducible refine LeO.bind ?_ (fun _ => ?_))
   | exact ih0 _ _ _ _
   | exact gangwayref01_Num.mono _ _
   | exact gangwayref03_Head.mono _ _ _ _ _
   | exact gangwayref03_Of.mono _ _
   | exact LeO.none _
   | refine LeO.ite ?_ ?_
   | refine LeO.bind ?_ (fun _ => ?_)
def gangwayref07_Parse.T9 : Bool × List (List Nat × List Nat) := (true, [([], []), ([0], [0]), ([1], [1]), ([2], [2]), ([2], [2]), ([2], [2]), ([3, 4, 5, 2, 2], [2, 3, 4, 5]), ([2], [2]), ([2], [2]), ([7, 8, 2], [2, 7, 8]), ([6, 9, 2], [2, 6, 9]), ([10, 6, 2], [2, 10]), ([11, 2], [2, 11]), ([2, 12], [2, 12])])
def gangwayref07_Parse.B9 : List Nat := [0, 1, 3, 7, 7, 7, 63, 7, 7, 391, 1023, 2047, 4095, 8191]
theorem gangwayref07_Parse.tab9 : rtab .any (opsOf Tryd.f21 9) = gangwayref07_Parse.T9 := by kernel_rfl
theorem gangwayref07_Parse.bits9 : waitsOk gangwayref07_Parse.T9.2 gangwayref07_Parse.B9 = true := by kernel_rfl
def gangwayref07_Parse.T11 : Bool × List (List Nat × List Nat) := (true, [([], []), ([0], [0]), ([1], [1]), ([2], [2]), ([], []), ([4], [4]), ([5, 2], [5]), ([6], [6]), ([], []), ([8], [8]), ([], []), ([], []), ([10, 11], [10, 11]), ([3, 7, 9, 12], [3, 7, 9, 12]), ([13, 6, 0, 1, 2, 3, 4, 5, 6, 7, 8, 9, 10, 11, 12, 13], [13]), ([14, 0, 1, 2, 3, 4, 5, 6, 7, 8, 9, 10, 11, 12, 13, 14], [])])
def gangwayref07_Parse.B11 : List Nat := [0, 1, 3, 7, 0, 16, 55, 119, 0, 256, 0, 0, 3072, 8191, 16383, 32767]
theorem gangwayref07_Parse.tab11 : rtab .any (opsOf Tryd.f21 11) = gangwayref07_Parse.T11 := by kernel_rfl
theorem gangwayref07_Parse.bits11 : waitsOk gangwayref07_Parse.T11.2 gangwayref07_Parse.B11 = true := by kernel_rfl
theorem z28_0 {p : Prop} (h : p := by
 simp only [Option.some.injEq, Prod.mk.injEq] at H
 obtain ⟨rfl, rfl, rfl, rfl, rfl⟩ := H
 go_enter Tryd.func21, Tryd.ntmps21
 go_wp2_with (first | ((with_reducible refine gate_dst (N := 6) rfl ?_); refine box_event qgcr (N := 6) qgcr (cs := #[.int .i64 0, .int .i64 0, .bool false, .string (⟨#[]⟩ : ByteArray)]) (t := 31) qlto ?_; intro gbz0 hg wz1 hbox hb; have BKz0 := Aside0.mk (hbox); have GEz0 := Aside0.mk ((by rw [hg]; exact (below_size q4ja) : w.heap.size ≤ gbz0)); replace HB := Aside0.mk (below_step q4ja hb); clear hb hbox hg) | ((with_reducible refine gate_callee (f := 40) rfl ?_); refine goesL_ (some 16) rfl rfl Tryd.func40 qg3m rfl #[.string (a2.extract 4 6)] rfl qraq ?_; (with_reducible refine (gangwayref01_Num.calls k (a2.extract 4 6) t304 _ A9.out).mono ?_); rintro e w' ⟨rfl, ⟨nd, rfl⟩⟩; refine ⟨_, rfl, ?_⟩; (try (rw [drewN_self wz1]; generalize hq_ : World.drewN wz1 _ = wz1; have nz2_ : Aside0 (wz1.heap[gbz0]? = some (.cells #[.int .i64 0, .int .i64 0, .bool false, .string (⟨#[]⟩ : ByteArray)] 31 (0, 0))) := ⟨(by rw [← hq_]; exact qirs)⟩; have nz3_ : Aside0 (Below w.heap.size w wz1) := ⟨(by rw [← hq_]; exact q4lr)⟩; clear BKz0 HB hq_; have BKz0 := nz2_; have HB := nz3_; clear nz2_ nz3_)); obtain ⟨hczz4_0, hczz4_1, hczz4_2, hczz4_3⟩ := cells4 BKz0.out; obtain ⟨hfzz4_0, hfzz4_1, hfzz4_2, hfzz4_3⟩ := frozen4 BKz0.out))
 refine bodyPost_ret (results_ct rfl _ _ gbz0 31 #[.int .i64 0, .int .i64 0, .bool false, .string (⟨#[]⟩ : ByteArray)] (0, 0) _ rfl qfew Tryd.underlying31 rfl qg3m) rfl ?_
 exact ⟨qxu5, q4lr⟩) : p := h
theorem z28_1 {p : Prop} (h : p := by
 simp only [Act.put, List.setIfInBounds_toArray, List.set_cons_zero, List.set_cons_succ, i64_w, i32_w]
 rfl) : p := h
set_option maxHeartbeats 8000000 in
set_option maxRecDepth 100000 in
theorem gangwayref07_Parse.calls (k : Nat) (a0 : Int) (a1 : Int) (a2 : ByteArray) (r1 : Int) (r2 : Int) (r3 : Bool) (r4 : ByteArray) (r5 : Int) (w : World) (h : gangwayref07_Parse.f k a0 a1 a2 = some (r1, r2, r3, r4, r5)) :
  Calls Tryd.prog 21 #[.int .u32 a0, .int .u32 a1, .string a2] w fun e w' => e = .returned (.tuple #[.agg #[.int .i64 r1, .int .i64 r2, .bool r3, .string r4], .int .i64 r5]) ∧ Below w.heap.size w w' := by
 have hu31 := Tryd.underlying31
 have HB := Aside0.mk (Below.refl w.heap.size w)
 have H := h
 unfold gangwayref07_Parse.f at H
 clear h
 by_cases c4 : (a2.size : Int) < 8
 ·rw [if_pos c4] at H
  have c4b0 : decide ((a2.size : Int) < 8) = true := decide_eq_true c4
  have c4b1 : decide (a2.size < 8) = true := decide_eq_true q1jy
  clear c4
  simp only [Option.some.injEq, Prod.mk.injEq] at H
  obtain ⟨rfl, rfl, rfl, rfl, rfl⟩ := H
  go_enter Tryd.func21, Tryd.ntmps21
  go_wp2_with (first | ((with_reducible refine gate_dst (N := 6) rfl ?_); refine box_event qgcr (N := 6) qgcr (cs := #[.int .i64 0, .int .i64 0, .bool false, .string (⟨#[]⟩ : ByteArray)]) (t := 31) qlto ?_; intro gb303 hg w5 hbox hb; have BK303 := Aside0.mk (hbox); have GE303 := Aside0.mk ((by rw [hg]; exact (below_size q4ja) : w.heap.size ≤ gb303)); replace HB := Aside0.mk (below_step q4ja hb); clear hb hbox hg; obtain ⟨hcz6_0, hcz6_1, hcz6_2, hcz6_3⟩ := cells4 BK303.out; obtain ⟨hfz6_0, hfz6_1, hfz6_2, hfz6_3⟩ := frozen4 BK303.out))
  refine bodyPost_ret (results_ct rfl _ _ gb303 31 #[.int .i64 0, .int .i64 0, .bool false, .string (⟨#[]⟩ : ByteArray)] (0, 0) _ rfl q0xf Tryd.underlying31 rfl qg3m) rfl ?_
  exact ⟨qxu5, qx9r⟩
 ·rw [if_neg c4] at H
  have c4b0 : decide ((a2.size : Int) < 8) = false := decide_eq_false c4
  have c4b1 : decide (a2.size < 8) = false := decide_eq_false q1jy
  clear c4
  by_cases c7 : 4 ≤ 6
  ·rw [if_pos c7] at H
   have c7b0 := eq_true c7
   have c7b1 : decide (4 ≤ 6) = true := decide_eq_true c7
   clear c7
   by_cases c8 : 6 ≤ (a2.size : Int)
   ·rw [if_pos c8] at H
    have c8b0 := eq_true c8
    have c8b1 : decide (6 ≤ (a2.size : Int)) = true := decide_eq_true c8
    clear c8
    replace H := Option.bind_eq_some_iff.mp H
    obtain ⟨t304, A90, H⟩ := H
    try dsimp only at H
    have A9 := Aside0.mk A90
    clear A90
    by_cases c10 : (wrap64 (t304)) < 8
    ·rw [if_pos c10] at H
     have c10b0 : decide ((wrap64 (t304)) < 8) = true := decide_eq_true c10
     clear c10
     exact z28_0
    ·rw [if_neg c10] at H
     have c10b0 : decide ((wrap64 (t304)) < 8) = false := decide_eq_false c10
     clear c10
     by_cases c13 : (wrap64 (t304)) > (a2.size : Int)
     ·rw [if_pos c13] at H
      have c13b0 : decide ((a2.size : Int) < (wrap64 (t304))) = true := decide_eq_true c13
      clear c13
      exact z28_0
     ·rw [if_neg c13] at H
      have c13b0 : decide ((a2.size : Int) < (wrap64 (t304))) = false := decide_eq_false c13
      clear c13
      by_cases c16 : 6 ≤ 8
      ·rw [if_pos c16] at H
       have c16b0 := eq_true c16
       have c16b1 : decide (6 ≤ 8) = true := decide_eq_true c16
       clear c16
       by_cases c17 : 8 ≤ (a2.size : Int)
       ·rw [if_pos c17] at H
        have c17b0 := eq_true c17
        have c17b1 : decide (8 ≤ (a2.size : Int)) = true := decide_eq_true c17
        clear c17
        replace H := Option.bind_eq_some_iff.mp H
        obtain ⟨t305, A180, H⟩ := H
        try dsimp only at H
        have A18 := Aside0.mk A180
        clear A180
        have HC19 := Aside0.mk H
        clear H
        go_enter Tryd.func21, Tryd.ntmps21
        go_upto_region 9 with (first | ((with_reducible refine gate_dst (N := 6) rfl ?_); refine box_event qgcr (N := 6) qgcr (cs := #[.int .i64 0, .int .i64 0, .bool false, .string (⟨#[]⟩ : ByteArray)]) (t := 31) qlto ?_; intro gb303 hg w20 hbox hb; have BK303 := Aside0.mk (hbox); have GE303 := Aside0.mk ((by rw [hg]; exact (below_size q4ja) : w.heap.size ≤ gb303)); replace HB := Aside0.mk (below_step q4ja hb); clear hb hbox hg) | ((with_reducible refine gate_callee (f := 40) rfl ?_); refine goesL_ (some 16) rfl rfl Tryd.func40 qg3m rfl #[.string (a2.extract 4 6)] rfl qraq ?_; (with_reducible refine (gangwayref01_Num.calls k (a2.extract 4 6) t304 _ A9.out).mono ?_); rintro e w' ⟨rfl, ⟨nd, rfl⟩⟩; refine ⟨_, rfl, ?_⟩) | ((with_reducible refine gate_callee (f := 40) rfl ?_); refine goesL_ (some 28) rfl rfl Tryd.func40 qg3m rfl #[.string (a2.extract 6 8)] rfl qraq ?_; (with_reducible refine (gangwayref01_Num.calls k (a2.extract 6 8) t305 _ A18.out).mono ?_); rintro e w' ⟨rfl, ⟨nd, rfl⟩⟩; refine ⟨_, rfl, ?_⟩))
        (try simp only [Act.put, List.setIfInBounds_toArray, List.set_cons_zero, List.set_cons_succ])
        go_cut [42] (fun v42 wc => ∃ (kq : Nat) (x42_18 : Bool), v42 = .bool x42_18 ∧ Aside0 (gangwayref07_Parse.j0 kq a2 (wrap64 (t304)) t305 x42_18 = some (r1, r2, r3, r4, r5)) ∧ Aside0 (kq ≤ k) ∧ Aside0 (wc.heap[gb303]? = some (.cells #[.int .i64 0, .int .i64 0, .bool false, .string (⟨#[]⟩ : ByteArray)] 31 (0, 0))) ∧ Aside0 (Below w.heap.size w wc))
        case first =>
         have H := HC19.out
         clear HC19
         by_cases c21 : t305 = 0
         ·rw [if_pos c21] at H
          have c21b0 : (t305 == 0) = true := beq_iff_eq.mpr c21
          have c21b1 : (t305 != 0) = false := bne_eq_false_iff_eq.mpr c21
          clear c21
          (first | rw [c21b0] | (simp only [i64_w, i32_w]; rw [c21b0]) | skip)
          have H' := Aside0.mk H
          clear H
          try go_wp2
          replace BK303 := Aside0.mk (blk_drew BK303.out)
          replace HB := Aside0.mk (below_drew1 HB.out)
          refine start_ (n := 14) (S := fun w' => True) (ds := []) (ba 14 0) qg3m rfl rfl trivial (fun hHeld => ?_); refine with_tabW gangwayref07_Parse.tab9 gangwayref07_Parse.bits9 (fun HT_ HW_ => ?_)
          refine pu_c3d (i := 0) (N := some 29) (ba 14 1) ?_
          refine pu_c3d (i := 1) (N := some 30) (ba 14 3) ?_
          refine pu_c3d (i := 2) (N := some 31) (ba 14 7) ?_
          refine pure_ (i := 3) (N := some 32) (v := undef) (a' := ?_) (ba 14 15) rfl rfl (any_of HT_.out qg3m) (fun _ _ _ h => h) (Or.inr ⟨quos, rfl⟩) ?_ ?_
          rotate_left
          ·exact z28_1
          refine pure_ (i := 4) (N := some 33) (v := undef) (a' := ?_) (ba 14 31) rfl rfl (any_of HT_.out qg3m) (fun _ _ _ h => h) (Or.inr ⟨quos, rfl⟩) ?_ ?_
          rotate_left
          ·exact z28_1
          refine pure_ (i := 5) (N := some 34) (v := undef) (a' := ?_) (ba 14 63) rfl rfl (any_of HT_.out qg3m) (fun _ _ _ h => h) (Or.inr ⟨quos, rfl⟩) ?_ ?_
          rotate_left
          ·exact z28_1
          refine pure_ (i := 6) (N := some 35) (v := undef) (a' := ?_) (ba 14 127) rfl rfl (any_of HT_.out qg3m) (fun _ _ _ h => h) (Or.inr ⟨quos, rfl⟩) ?_ ?_
          rotate_left
          ·exact z28_1
          refine pure_ (i := 7) (N := some 36) (v := undef) (a' := ?_) (ba 14 255) rfl rfl (any_of HT_.out qg3m) (fun _ _ _ h => h) (Or.inr ⟨quos, rfl⟩) ?_ ?_
          rotate_left
          ·exact z28_1
          refine pure_ (i := 8) (N := some 37) (v := undef) (a' := ?_) (ba 14 511) rfl rfl (any_of HT_.out qg3m) (fun _ _ _ h => h) (Or.inr ⟨quos, rfl⟩) ?_ ?_
          rotate_left
          ·exact z28_1
          refine pure_ (i := 9) (N := some 38) (v := undef) (a' := ?_) (ba 14 1023) rfl rfl (any_of HT_.out qg3m) (fun _ _ _ h => h) (Or.inr ⟨quos, rfl⟩) ?_ ?_
          rotate_left
          ·exact z28_1
          refine pure_ (i := 10) (N := some 39) (v := undef) (a' := ?_) (ba 14 2047) rfl rfl (any_of HT_.out qg3m) (fun _ _ _ h => h) (Or.inr ⟨quos, rfl⟩) ?_ ?_
          rotate_left
          ·exact z28_1
          refine pure_ (i := 11) (N := some 40) (v := undef) (a' := ?_) (ba 14 4095) rfl rfl (any_of HT_.out qg3m) (fun _ _ _ h => h) (Or.inr ⟨quos, rfl⟩) ?_ ?_
          rotate_left
          ·exact z28_1
          refine pure_ (i := 12) (N := some 41) (v := undef) (a' := ?_) (ba 14 8191) rfl rfl (any_of HT_.out qg3m) (fun _ _ _ h => h) (Or.inr ⟨quos, rfl⟩) ?_ ?_
          rotate_left
          ·exact z28_1
          refine pu_c3d (i := 13) (N := some 42) (ba 14 16383) ?_
          refine done_ (done_of HT_.out qg3m) ?_
          try go_wp2
          go_meet
          case rel => first | exact ⟨_, (false), q8z4, H', ⟨qpfc⟩, ⟨q0t4⟩, ⟨qx9r⟩⟩ | (subst_vars; exact ⟨_, (false), q8z4, H', ⟨qpfc⟩, ⟨q0t4⟩, ⟨qx9r⟩⟩)
         ·rw [if_neg c21] at H
          have c21b0 : (t305 == 0) = false := beq_eq_false_iff_ne.mpr c21
          have c21b1 : (t305 != 0) = true := bne_iff_ne.mpr c21
          (first | rw [c21b0] | (simp only [i64_w, i32_w]; rw [c21b0]) | skip)
          replace H := Option.bind_eq_some_iff.mp H
          obtain ⟨t306, A230, H⟩ := H
          try dsimp only at H
          have A23 := Aside0.mk A230
          clear A230
          obtain ⟨ji24, hji24⟩ : ∃ j_ : Int, (wrap64 (t304)) = j_ := ⟨_, rfl⟩
          replace H : (if 0 ≤ (ji24) then (if (ji24) ≤ (a2.size : Int) then (if t306.size + (a2.extract 0 ((ji24) : Int).toNat).size ≤ 9223372036854775807 then ((gangwayref03_Of.f k (t306 ++ (a2.extract 0 ((ji24) : Int).toNat))).bind fun t307 => (gangwayref07_Parse.j0 k a2 ji24 t305 (t307 != 0))) else (none)) else (none)) else (none)) = some (r1, r2, r3, r4, r5) := by first | (rw [hji24] at H; exact H) | (simp only [hji24] at H ⊢; exact H)
          (try rw [hji24] at c10b0)
          (try rw [hji24] at c13b0)
          (try rw [hji24] at A23)
          have hji24w : (IntKind.i64.wrap (t304)) = ji24 := (i64_w _).trans hji24
          by_cases c25 : 0 ≤ (ji24)
          ·rw [if_pos c25] at H
           have c25b0 := eq_true c25
           have c25b1 : decide (0 ≤ (ji24)) = true := decide_eq_true c25
           clear c25
           by_cases c26 : (ji24) ≤ (a2.size : Int)
           ·rw [if_pos c26] at H
            have c26b0 := eq_true c26
            have c26b1 : decide ((ji24) ≤ (a2.size : Int)) = true := decide_eq_true c26
            clear c26
            by_cases c27 : t306.size + (a2.extract 0 ((ji24) : Int).toNat).size ≤ 9223372036854775807
            ·rw [if_pos c27] at H
             have c27b0 := eq_true c27
             have c27b1 : decide (t306.size + (a2.extract 0 ((ji24) : Int).toNat).size ≤ 9223372036854775807) = true := decide_eq_true c27
             try have c27b2 : (9223372036854775807 < t306.size + (a2.extract 0 ((ji24) : Int).toNat).size) = False := eq_false (Nat.not_lt.2 c27)
             replace H := Option.bind_eq_some_iff.mp H
             obtain ⟨t307, A280, H⟩ := H
             try dsimp only at H
             have A28 := Aside0.mk A280
             clear A280
             have H' := Aside0.mk H
             clear H
             try go_wp2
             replace BK303 := Aside0.mk (blk_drew BK303.out)
             replace HB := Aside0.mk (below_drew1 HB.out)
             refine start_ (n := 14) (S := fun w' => True) (ds := []) (ba 14 0) qg3m rfl rfl trivial (fun hHeld => ?_); refine with_tabW gangwayref07_Parse.tab9 gangwayref07_Parse.bits9 (fun HT_ HW_ => ?_)
             refine pu_c3d (i := 0) (N := some 29) (ba 14 1) ?_
             refine pu_c3d (i := 1) (N := some 30) (ba 14 3) ?_
             refine pu_c3d (i := 2) (N := some 31) (ba 14 7) ?_
             refine pu_c3d (i := 3) (N := some 32) (ba 14 15) ?_
             refine pu_c3d (i := 4) (N := some 33) (ba 14 31) ?_
             refine pu_c3d (i := 5) (N := some 34) (ba 14 63) ?_
             refine pu_c3d (i := 7) (N := some 36) (ba 14 191) ?_
             refine pu_c3d (i := 8) (N := some 37) (ba 14 447) ?_
             refine pu_c3d (i := 9) (N := some 38) (ba 14 959) ?_
             refine one_ (i := 6) (N := some 35) (ba 14 1023) rfl rfl (one_of HT_.out qg3m) qomw (fun K hK => ?_)
             refine goes_ Tryd.func41 qg3m rfl #[.int .u32 a0, .int .u32 a1, .int .i64 17, .int .i64 ji24] qlo1 rfl rfl qkuz ?_
             with_reducible refine (gangwayref03_Head.calls k a0 a1 17 ji24 t306 _ A23.out).mono ?_
             rintro e w30 ⟨rfl, hb⟩
             refine ⟨_, rfl, ?_⟩
             replace BK303 := Aside0.mk (blk_below (g := gb303) (o := .cells #[.int .i64 0, .int .i64 0, .bool false, .string (⟨#[]⟩ : ByteArray)] 31 (0, 0)) q0t4 hb)
             replace HB := Aside0.mk (below_step qx9r hb)
             (try clear hb)
             (try clear hb2)
             (try clear hk)
             (try clear hi)
             refine hK.out _ _ trivial (fun hHeld => ?_)
             clear hK K
             refine norm_ (a' := ?_) ?_ ?_
             rotate_left
             ·show Act.put _ (some 35) _ = _
              simp only [Act.put, List.setIfInBounds_toArray, List.set_cons_zero, List.set_cons_succ, i64_w, i32_w]
              rfl
             refine pu_639 (i := 10) (N := some 39) (ba 14 2047) ?_
             refine one_ (i := 11) (N := some 40) (ba 14 4095) rfl rfl (one_of HT_.out qg3m) qomw (fun K hK => ?_)
             refine goes_ Tryd.func38 qg3m rfl #[.string (t306 ++ (a2.extract 0 ((ji24) : Int).toNat))] qlo1 rfl rfl qkuz ?_
             with_reducible refine (gangwayref03_Of.calls k (t306 ++ (a2.extract 0 ((ji24) : Int).toNat)) t307 _ A28.out).mono ?_
             rintro e w' ⟨rfl, ⟨nd, rfl⟩⟩
             refine ⟨_, rfl, ?_⟩
             refine hK.out _ _ trivial (fun hHeld => ?_)
             clear hK K
             refine norm_ (a' := ?_) ?_ ?_
             rotate_left
             ·show Act.put _ (some 40) _ = _
              simp only [Act.put, List.setIfInBounds_toArray, List.set_cons_zero, List.set_cons_succ, i64_w, i32_w]
              rfl
             refine pu_c3d (i := 12) (N := some 41) (ba 14 8191) ?_
             refine pu_c3d (i := 13) (N := some 42) (ba 14 16383) ?_
             refine done_ (done_of HT_.out qg3m) ?_
             try go_wp2
             go_meet
             case rel => first | exact ⟨_, ((t307 != 0)), q8z4, H', ⟨qpfc⟩, ⟨q0t4⟩, ⟨qx9r⟩⟩ | (subst_vars; exact ⟨_, ((t307 != 0)), q8z4, H', ⟨qpfc⟩, ⟨q0t4⟩, ⟨qx9r⟩⟩)
            ·rw [if_neg c27] at H
             exact absurd H q6hr
           ·rw [if_neg c26] at H
            exact absurd H q6hr
          ·rw [if_neg c25] at H
           exact absurd H q6hr
        case rest =>
         clear HC19
         try clear c1
         try clear c2
         try clear p2
         try clear c3
         try clear c4
         try clear c4b0
         try clear c4b1
         try clear p6
         try clear c7
         try clear c7b0
         try clear c7b1
         try clear c8
         try clear c8b0
         try clear c8b1
         try clear c10
         try clear c10b0
         try clear c13
         try clear c13b0
         try clear c16
         try clear c16b0
         try clear c16b1
         try clear c17
         try clear c17b0
         try clear c17b1
         try clear c21
         try clear c21b0
         try clear c21b1
         try clear c25
         try clear c25b0
         try clear c25b1
         try clear c26
         try clear c26b0
         try clear c26b1
         try clear c27
         try clear c27b0
         try clear c27b1
         try clear c27b2
         obtain ⟨kq, x42_18, rfl, HA, HJ18, BK303, HB⟩ := hcut
         cases kq with
         | zero => exact absurd HA.out (by simp [gangwayref07_Parse.j0])
         | succ kj18 =>
          have H := HA.out
          clear HA
          simp only [gangwayref07_Parse.j0] at H
          by_cases c31 : x42_18 = true
          ·subst c31
           rw [if_pos rfl] at H
           simp only [Option.some.injEq, Prod.mk.injEq] at H
           obtain ⟨rfl, rfl, rfl, rfl, rfl⟩ := H
           obtain ⟨hcz32_0, hcz32_1, hcz32_2, hcz32_3⟩ := cells4 BK303.out
           obtain ⟨hfz32_0, hfz32_1, hfz32_2, hfz32_3⟩ := frozen4 BK303.out
           go_wp2
           refine bodyPost_ret (results_ct rfl _ _ gb303 31 #[.int .i64 0, .int .i64 0, .bool false, .string (⟨#[]⟩ : ByteArray)] (0, 0) _ rfl q0xf Tryd.underlying31 rfl qg3m) rfl ?_
           exact ⟨qxu5, qx9r⟩
          ·replace c31 := Bool.eq_false_iff.mpr c31
           subst c31
           rw [if_neg (show ¬ (false = true) by decide)] at H
           by_cases c33 : 0 ≤ 2
           ·rw [if_pos c33] at H
            have c33b0 := eq_true c33
            have c33b1 : decide (0 ≤ 2) = true := decide_eq_true c33
            clear c33
            by_cases c34 : 2 ≤ (a2.size : Int)
            ·rw [if_pos c34] at H
             have c34b0 := eq_true c34
             have c34b1 : decide (2 ≤ (a2.size : Int)) = true := decide_eq_true c34
             clear c34
             replace H := Option.bind_eq_some_iff.mp H
             obtain ⟨t308, A350, H⟩ := H
             try dsimp only at H
             have A35 := Aside0.mk A350
             clear A350
             by_cases c36 : 2 ≤ 4
             ·rw [if_pos c36] at H
              have c36b0 := eq_true c36
              have c36b1 : decide (2 ≤ 4) = true := decide_eq_true c36
              clear c36
              by_cases c37 : 4 ≤ (a2.size : Int)
              ·rw [if_pos c37] at H
               have c37b0 := eq_true c37
               have c37b1 : decide (4 ≤ (a2.size : Int)) = true := decide_eq_true c37
               clear c37
               replace H := Option.bind_eq_some_iff.mp H
               obtain ⟨t309, A380, H⟩ := H
               try dsimp only at H
               have A38 := Aside0.mk A380
               clear A380
               by_cases c39 : 8 ≤ (wrap64 (t304))
               ·rw [if_pos c39] at H
                have c39b0 := eq_true c39
                have c39b1 : decide (8 ≤ (wrap64 (t304))) = true := decide_eq_true c39
                clear c39
                by_cases c40 : (wrap64 (t304)) ≤ (a2.size : Int)
                ·rw [if_pos c40] at H
                 have c40b0 := eq_true c40
                 have c40b1 : decide ((wrap64 (t304)) ≤ (a2.size : Int)) = true := decide_eq_true c40
                 clear c40
                 simp only [Option.some.injEq, Prod.mk.injEq] at H
                 obtain ⟨rfl, rfl, rfl, rfl, rfl⟩ := H
                 try go_wp2
                 replace BK303 := Aside0.mk (blk_drew BK303.out)
                 replace HB := Aside0.mk (below_drew1 HB.out)
                 refine start_ (n := 16) (S := fun w' => True) (ds := []) (ba 16 0) qg3m rfl rfl trivial (fun hHeld => ?_); refine with_tabW gangwayref07_Parse.tab11 gangwayref07_Parse.bits11 (fun HT_ HW_ => ?_)
                 generalize wc.drew = w41 at BK303 HB hHeld ⊢
                 refine pu_c3d (i := 0) (N := some 44) (ba 16 1) ?_
                 refine pu_c3d (i := 1) (N := some 45) (ba 16 3) ?_
                 refine pu_c3d (i := 4) (N := some 48) (ba 16 19) ?_
                 refine pu_c3d (i := 5) (N := some 49) (ba 16 51) ?_
                 refine pu_c3d (i := 8) (N := some 52) (ba 16 307) ?_
                 refine pu_c3d (i := 9) (N := some 53) (ba 16 819) ?_
                 refine pu_c3d (i := 10) (N := some 54) (ba 16 1843) ?_
                 refine pu_c3d (i := 11) (N := some 55) (ba 16 3891) ?_
                 refine pu_c3d (i := 12) (N := some 56) (ba 16 7987) ?_
                 refine one_ (i := 2) (N := some 46) (ba 16 7991) rfl rfl (one_of HT_.out qg3m) qomw (fun K hK => ?_)
                 refine goes_ Tryd.func40 qg3m rfl #[.string (a2.extract 0 2)] qlo1 rfl rfl qraq ?_
                 with_reducible refine (gangwayref01_Num.calls kj18 (a2.extract 0 2) t308 _ A35.out).mono ?_
                 rintro e w' ⟨rfl, ⟨nd, rfl⟩⟩
                 refine ⟨_, rfl, ?_⟩
                 refine hK.out _ _ trivial (fun hHeld => ?_)
                 clear hK K
                 refine norm_ (a' := ?_) ?_ ?_
                 rotate_left
                 ·show Act.put _ (some 46) _ = _
                  simp only [Act.put, List.setIfInBounds_toArray, List.set_cons_zero, List.set_cons_succ, i64_w, i32_w]
                  rfl
                 refine pu_c3d (i := 3) (N := some 47) (ba 16 7999) ?_
                 refine one_ (i := 6) (N := some 50) (ba 16 8063) rfl rfl (one_of HT_.out qg3m) qomw (fun K hK => ?_)
                 refine goes_ Tryd.func40 qg3m rfl #[.string (a2.extract 2 4)] qlo1 rfl rfl qraq ?_
                 with_reducible refine (gangwayref01_Num.calls kj18 (a2.extract 2 4) t309 _ A38.out).mono ?_
                 rintro e w' ⟨rfl, ⟨nd, rfl⟩⟩
                 refine ⟨_, rfl, ?_⟩
                 refine hK.out _ _ trivial (fun hHeld => ?_)
                 clear hK K
                 refine norm_ (a' := ?_) ?_ ?_
                 rotate_left
                 ·show Act.put _ (some 50) _ = _
                  simp only [Act.put, List.setIfInBounds_toArray, List.set_cons_zero, List.set_cons_succ, i64_w, i32_w]
                  rfl
                 refine pu_c3d (i := 7) (N := some 51) (ba 16 8191) ?_
                 refine pu_c3d (i := 13) (N := some 57) (ba 16 16383) ?_
                 refine one_ (i := 14) (N := none) (ba 16 32767) rfl rfl (one_of HT_.out qg3m) qomw (fun K hK => ?_)
                 have hs42 : w41.cell? ⟨gb303, 0, none⟩ = some (.int .i64 0) := (blk_cell BK303.out 0).trans rfl
                 have hfs42 := blk_frozen BK303.out 0
                 have hs43 : w41.cell? ⟨gb303, 1, none⟩ = some (.int .i64 0) := (blk_cell BK303.out 1).trans rfl
                 have hfs43 := blk_frozen BK303.out 1
                 have hs44 : w41.cell? ⟨gb303, 2, none⟩ = some (.bool false) := (blk_cell BK303.out 2).trans rfl
                 have hfs44 := blk_frozen BK303.out 2
                 have hs45 : w41.cell? ⟨gb303, 3, none⟩ = some (.string (⟨#[]⟩ : ByteArray)) := (blk_cell BK303.out 3).trans rfl
                 have hfs45 := blk_frozen BK303.out 3
                 refine skip_ (w1 := ?_) qgcr rfl ?_ ?_
                 rotate_left
                 ·go_simp
                  rfl
                 refine hK.out _ _ trivial (fun hHeld => ?_)
                 clear hK K
                 refine pu_c3d (i := 15) (N := some 7) (ba 16 65535) ?_
                 refine done_ (done_of HT_.out qg3m) ?_
                 try go_wp2
                 refine bodyPost_ret (results_ct rfl _ _ gb303 31 #[.int .i64 (wrap64 (t308)), .int .i64 (wrap64 (t309)), .bool (t305 == 0), .string (a2.extract 8 ((wrap64 (t304)) : Int).toNat)] (0, 0) _ rfl q0xf Tryd.underlying31 rfl qg3m) rfl ?_
                 exact ⟨qxu5, qx9r⟩
                ·rw [if_neg c40] at H
                 exact absurd H q6hr
               ·rw [if_neg c39] at H
                exact absurd H q6hr
              ·rw [if_neg c37] at H
               exact absurd H q6hr
             ·rw [if_neg c36] at H
              exact absurd H q6hr
            ·rw [if_neg c34] at H
             exact absurd H q6hr
           ·rw [if_neg c33] at H
            exact absurd H q6hr
       ·rw [if_neg c17] at H
        exact absurd H q6hr
      ·rw [if_neg c16] at H
       exact absurd H q6hr
   ·rw [if_neg c8] at H
    exact absurd H q6hr
  ·rw [if_neg c7] at H
   exact absurd H q6hr
end Go.Proofs.YtbkgaplldfilnaaDoor.P
