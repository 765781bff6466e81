-- slim
-- Written by wip/hprint.py (this session's program) through the kit's print program; hand contracts are marked 'by hand'.
import Derived.Test.YtbkgaplldfilnaaDoorAbb
import Derived.Test.YtbkgaplldfilnaaDoorRow
import Derived.Test.YtbkgaplldfilnaaDoorPx0
import Derived.Test.YtbkgaplldfilnaaDoorPx24
import Derived.Test.YtbkgaplldfilnaaDoorPx41
namespace Go.Proofs.YtbkgaplldfilnaaDoor.P
open Go.RowKit Go.Proofs.YtbkgaplldfilnaaDoorW.PrintWords Go.Proofs.YtbkgaplldfilnaaDoorW.PrintLast Go.Proofs.YtbkgaplldfilnaaDoorW.PrintMore
attribute [local go_sem] max2_int min2_int max_two min_two max_three min_three max_four min_four   -- for this text's walks alone
set_option linter.unusedVariables false
set_option linter.unusedSimpArgs false

theorem qpc4 {p : Prop} (h : p := by with_reducible repeat (first | (apply blk_far; case hp => assumption) | apply blk_set | refine blk_drewN ?_ _ | refine blk_drew ?_ | refine blk_alloc ?_ _ | exact BK591.out)) : p := h
/-! ### gangwayref06_Check: function 52 -/
def gangwayref06_Check.f (a0_0 : Int) (a0_1 : Int) (a0_2 : Bool) (a0_3 : Bool) (a0_4 : Int) (a0_5 : Int) (a0_6 : Int) (a0_7 : Int) (a0_8 : Int) (a0_9 : ByteArray) : Option (Int) := if (a0_0 / 256) = 0 then (if (a0_5 / 256) = 0 then (if ((a0_6 / 256) = 0) then (if (a0_1 / 65536) = 0 then (if (a0_4 / 8192) = 0 then (if (a0_9.size : Int) > 65515 then (some 61) else (some 0)) else (some 61)) else (some 61)) else (some 61)) else (some 61)) else (some 61)
theorem z40_0 {p : Prop} (h : p := by
 obtain rfl := Option.some.inj H
 go_enter Tryd.func52, Tryd.ntmps52
 go_wp2_with (first | ((with_reducible refine gate_st (ty := 64) rfl ?_); refine storeC10 rfl rfl rfl rfl rfl qpc4 qr2c qg3m rfl ?_) | ((with_reducible refine gate_ld (ty := 64) rfl ?_); (try (with_reducible refine gate_gd rfl ?_; refine gate_guard q8ju ?_; dsimp only)); refine load_st rfl rfl rfl qpc4 qr2c Tryd.underlying64 rfl qg3m ?_; (try simp only [Act.put, List.setIfInBounds_toArray, List.set_cons_zero, List.set_cons_succ])) | ((with_reducible refine gate_dst (N := 1) rfl ?_); (try (refine gate_guard qgcr ?_; dsimp only)); refine box_event qgcr (N := 1) qgcr (cs := #[.int .i64 a0_0, .int .i64 a0_1, .bool a0_2, .bool a0_3, .int .i64 a0_4, .int .i64 a0_5, .int .i64 a0_6, .int .u32 a0_7, .int .u32 a0_8, .string a0_9]) (t := 64) qlto ?_; intro gbz0 hg wz1 hbox hb; have BK591 := Aside0.mk (hbox); have GEz0 := Aside0.mk ((qisx : w.heap.size ≤ gbz0)); replace HB := Aside0.mk (below_step qpag hb); clear hb hbox hg; obtain ⟨hczz2_0, hczz2_1, hczz2_2, hczz2_3, hczz2_4, hczz2_5, hczz2_6, hczz2_7, hczz2_8, hczz2_9⟩ := cells10 BK591.out; obtain ⟨hfzz2_0, hfzz2_1, hfzz2_2, hfzz2_3, hfzz2_4, hfzz2_5, hfzz2_6, hfzz2_7, hfzz2_8, hfzz2_9⟩ := frozen10 BK591.out))
 go_ret
 exact ⟨qxu5, qmef⟩) : p := h
set_option maxHeartbeats 8000000 in
set_option maxRecDepth 100000 in
theorem gangwayref06_Check.calls (a0_0 : Int) (a0_1 : Int) (a0_2 : Bool) (a0_3 : Bool) (a0_4 : Int) (a0_5 : Int) (a0_6 : Int) (a0_7 : Int) (a0_8 : Int) (a0_9 : ByteArray) (r : Int) (w : World) (h : gangwayref06_Check.f a0_0 a0_1 a0_2 a0_3 a0_4 a0_5 a0_6 a0_7 a0_8 a0_9 = some r) :
  Calls Tryd.prog 52 #[.agg #[.int .i64 a0_0, .int .i64 a0_1, .bool a0_2, .bool a0_3, .int .i64 a0_4, .int .i64 a0_5, .int .i64 a0_6, .int .u32 a0_7, .int .u32 a0_8, .string a0_9]] w fun e w' => e = .returned (.int .i64 r) ∧ Below w.heap.size w w' := by
 have hu64 := Tryd.underlying64
 have HB := Aside0.mk (Below.refl w.heap.size w)
 have H := h
 unfold gangwayref06_Check.f at H
 clear h
 by_cases c2 : (a0_0 / 256) = 0
 ·rw [if_pos c2] at H
  have c2b0 : ((a0_0 / 256) == 0) = true := beq_iff_eq.mpr c2
  have c2b1 : ((a0_0 / 256) != 0) = false := bne_eq_false_iff_eq.mpr c2
  clear c2
  by_cases c3 : (a0_5 / 256) = 0
  ·rw [if_pos c3] at H
   have c3b0 : ((a0_5 / 256) == 0) = true := beq_iff_eq.mpr c3
   have c3b1 : ((a0_5 / 256) != 0) = false := bne_eq_false_iff_eq.mpr c3
   clear c3
   by_cases c4 : ((a0_6 / 256) = 0)
   ·rw [if_pos c4] at H
    have c4b0 : ((a0_6 / 256) == 0) = true := beq_iff_eq.mpr c4
    have c4b1 : ((a0_6 / 256) != 0) = false := bne_eq_false_iff_eq.mpr c4
    clear c4
    by_cases c5 : (a0_1 / 65536) = 0
    ·rw [if_pos c5] at H
     have c5b0 : ((a0_1 / 65536) == 0) = true := beq_iff_eq.mpr c5
     have c5b1 : ((a0_1 / 65536) != 0) = false := bne_eq_false_iff_eq.mpr c5
     clear c5
     by_cases c6 : (a0_4 / 8192) = 0
     ·rw [if_pos c6] at H
      have c6b0 : ((a0_4 / 8192) == 0) = true := beq_iff_eq.mpr c6
      have c6b1 : ((a0_4 / 8192) != 0) = false := bne_eq_false_iff_eq.mpr c6
      clear c6
      by_cases c7 : (a0_9.size : Int) > 65515
      ·rw [if_pos c7] at H
       have c7b0 : decide (65515 < (a0_9.size : Int)) = true := decide_eq_true c7
       have c7b1 : decide (65515 < a0_9.size) = true := decide_eq_true q1jy
       clear c7
       exact z40_0
      ·rw [if_neg c7] at H
       have c7b0 : decide (65515 < (a0_9.size : Int)) = false := decide_eq_false c7
       have c7b1 : decide (65515 < a0_9.size) = false := decide_eq_false q1jy
       clear c7
       exact z40_0
     ·rw [if_neg c6] at H
      have c6b0 : ((a0_4 / 8192) == 0) = false := beq_eq_false_iff_ne.mpr c6
      have c6b1 : ((a0_4 / 8192) != 0) = true := bne_iff_ne.mpr c6
      exact z40_0
    ·rw [if_neg c5] at H
     have c5b0 : ((a0_1 / 65536) == 0) = false := beq_eq_false_iff_ne.mpr c5
     have c5b1 : ((a0_1 / 65536) != 0) = true := bne_iff_ne.mpr c5
     exact z40_0
   ·rw [if_neg c4] at H
    have c4b0 : ((a0_6 / 256) == 0) = false := beq_eq_false_iff_ne.mpr c4
    have c4b1 : ((a0_6 / 256) != 0) = true := bne_iff_ne.mpr c4
    exact z40_0
  ·rw [if_neg c3] at H
   have c3b0 : ((a0_5 / 256) == 0) = false := beq_eq_false_iff_ne.mpr c3
   have c3b1 : ((a0_5 / 256) != 0) = true := bne_iff_ne.mpr c3
   exact z40_0
 ·rw [if_neg c2] at H
  have c2b0 : ((a0_0 / 256) == 0) = false := beq_eq_false_iff_ne.mpr c2
  have c2b1 : ((a0_0 / 256) != 0) = true := bne_iff_ne.mpr c2
  exact z40_0
attribute [local go_sem] max2_int min2_int max_two min_two max_three min_three max_four min_four   -- for this text's walks alone
set_option linter.unusedVariables false
set_option linter.unusedSimpArgs false

/-! ### gangwayref07_Check: function 50 -/
def gangwayref07_Check.f (a0_0 : Int) (a0_1 : Int) (a0_2 : Bool) (a0_3 : ByteArray) : Option (Int) := if (a0_0 / 65536) = 0 then (if (a0_1 / 65536) = 0 then (if (a0_3.size : Int) > 65507 then (some 71) else (some 0)) else (some 71)) else (some 71)
theorem z38_0 {p : Prop} (h : p := by
 obtain rfl := Option.some.inj H
 go_enter Tryd.func50, Tryd.ntmps50
 go_wp2_with (first | ((with_reducible refine gate_dst (N := 1) rfl ?_); (try (refine gate_guard qgcr ?_; dsimp only)); refine box_event qgcr (N := 1) qgcr (cs := #[.int .i64 a0_0, .int .i64 a0_1, .bool a0_2, .string a0_3]) (t := 31) qlto ?_; intro gbz0 hg wz1 hbox hb; have BKz0 := Aside0.mk (hbox); have GEz0 := Aside0.mk ((qisx : w.heap.size ≤ gbz0)); replace HB := Aside0.mk (below_step qpag hb); clear hb hbox hg; obtain ⟨hczz2_0, hczz2_1, hczz2_2, hczz2_3⟩ := cells4 BKz0.out; obtain ⟨hfzz2_0, hfzz2_1, hfzz2_2, hfzz2_3⟩ := frozen4 BKz0.out))
 go_ret
 exact ⟨qxu5, qmef⟩) : p := h
set_option maxHeartbeats 8000000 in
set_option maxRecDepth 100000 in
theorem gangwayref07_Check.calls (a0_0 : Int) (a0_1 : Int) (a0_2 : Bool) (a0_3 : ByteArray) (r : Int) (w : World) (h : gangwayref07_Check.f a0_0 a0_1 a0_2 a0_3 = some r) :
  Calls Tryd.prog 50 #[.agg #[.int .i64 a0_0, .int .i64 a0_1, .bool a0_2, .string a0_3]] w fun e w' => e = .returned (.int .i64 r) ∧ Below w.heap.size w w' := by
 have hu31 := Tryd.underlying31
 have HB := Aside0.mk (Below.refl w.heap.size w)
 have H := h
 unfold gangwayref07_Check.f at H
 clear h
 by_cases c2 : (a0_0 / 65536) = 0
 ·rw [if_pos c2] at H
  have c2b0 : ((a0_0 / 65536) == 0) = true := beq_iff_eq.mpr c2
  have c2b1 : ((a0_0 / 65536) != 0) = false := bne_eq_false_iff_eq.mpr c2
  clear c2
  by_cases c3 : (a0_1 / 65536) = 0
  ·rw [if_pos c3] at H
   have c3b0 : ((a0_1 / 65536) == 0) = true := beq_iff_eq.mpr c3
   have c3b1 : ((a0_1 / 65536) != 0) = false := bne_eq_false_iff_eq.mpr c3
   clear c3
   by_cases c4 : (a0_3.size : Int) > 65507
   ·rw [if_pos c4] at H
    have c4b0 : decide (65507 < (a0_3.size : Int)) = true := decide_eq_true c4
    have c4b1 : decide (65507 < a0_3.size) = true := decide_eq_true q1jy
    clear c4
    exact z38_0
   ·rw [if_neg c4] at H
    have c4b0 : decide (65507 < (a0_3.size : Int)) = false := decide_eq_false c4
    have c4b1 : decide (65507 < a0_3.size) = false := decide_eq_false q1jy
    clear c4
    exact z38_0
  ·rw [if_neg c3] at H
   have c3b0 : ((a0_1 / 65536) == 0) = false := beq_eq_false_iff_ne.mpr c3
   have c3b1 : ((a0_1 / 65536) != 0) = true := bne_iff_ne.mpr c3
   exact z38_0
 ·rw [if_neg c2] at H
  have c2b0 : ((a0_0 / 65536) == 0) = false := beq_eq_false_iff_ne.mpr c2
  have c2b1 : ((a0_0 / 65536) != 0) = true := bne_iff_ne.mpr c2
  exact z38_0
attribute [local go_sem] max2_int min2_int max_two min_two max_three min_three max_four min_four   -- for this text's walks alone
set_option linter.unusedVariables false
set_option linter.unusedSimpArgs false

theorem qdpl {p : Prop} (h : p := by (with_reducible repeat (first | refine blk_drewN ?_ _ | refine blk_drew ?_ | refine blk_alloc ?_ _)); exact BK602.out) : p := h
theorem qlew {p : Prop} (h : p := by repeat (first | (with_reducible first | exact HB.out | apply below_alloc | apply pw_below_drewN | apply below_drew1 | refine below_set ?_ GE602.out) | exact HB.out)) : p := h
theorem q2d4 {p : Prop} (h : p := by with_reducible repeat (first | (apply blk_far; case hp => assumption) | apply blk_set | refine blk_drewN ?_ _ | refine blk_drew ?_ | refine blk_alloc ?_ _ | exact BK602.out)) : p := h
theorem qknc {p : Prop} (h : p := by exact ⟨(blk_cell BK602.out 0).trans rfl, (blk_cell BK602.out 1).trans rfl, (blk_cell BK602.out 2).trans rfl, (blk_cell BK602.out 3).trans rfl, (blk_cell BK602.out 4).trans rfl, (blk_cell BK602.out 5).trans rfl, (blk_cell BK602.out 6).trans rfl, (blk_cell BK602.out 7).trans rfl, (blk_cell BK602.out 8).trans rfl, (blk_cell BK602.out 9).trans rfl⟩) : p := h
/-! ### gangwayref06_Build: function 26 -/
def gangwayref06_Build.f (k : Nat) (a0_0 : Int) (a0_1 : Int) (a0_2 : Bool) (a0_3 : Bool) (a0_4 : Int) (a0_5 : Int) (a0_6 : Int) (a0_7 : Int) (a0_8 : Int) (a0_9 : ByteArray) : Option (ByteArray × Int) := (gangwayref06_Check.f a0_0 a0_1 a0_2 a0_3 a0_4 a0_5 a0_6 a0_7 a0_8 a0_9).bind fun t603 => (if t603 = 0 then ((gangwayref06_Head.f k a0_0 a0_1 a0_2 a0_3 a0_4 a0_5 a0_6 a0_7 a0_8 a0_9 0).bind fun t604 => ((gangwayref03_Of.f k t604).bind fun t605 => ((gangwayref06_Head.f k a0_0 a0_1 a0_2 a0_3 a0_4 a0_5 a0_6 a0_7 a0_8 a0_9 t605).bind fun t606 => (if t606.size + a0_9.size ≤ 9223372036854775807 then (some (t606 ++ a0_9, 0)) else (none))))) else (some ((⟨#[]⟩ : ByteArray), t603)))
theorem gangwayref06_Build.mono : ∀ a0 a1 a2 a3 a4 a5 a6 a7 a8 a9 k, LeO (gangwayref06_Build.f k a0 a1 a2 a3 a4 a5 a6 a7 a8 a9) (gangwayref06_Build.f (k + 1) a0 a1 a2 a3 a4 a5 a6 a7 a8 a9) := by
 intro a0 a1 a2 a3 a4 a5 a6 a7 a8 a9 k
 unfold gangwayref06_Build.f
 repeat' first
   | (with_reducible exact gangwayref03_Of.mono _ _)
   | (with_reducible exact gangwayref06_Head.mono _ _ _ _ _ _ _ _ _ _ _ _)
   | (with_reducible exact LeO.refl _)
   | (with_reducible exact LeO.none _)
   | (with_reducible refine LeO.ite ?_ ?_)
   | (with_reducible refine LeO.bind ?_ (fun _ => ?_))
   | exact gangwayref03_Of.mono _ _
   | exact gangwayref06_Head.mono _ _ _ _ _ _ _ _ _ _ _ _
   | exact LeO.none _
   | refine LeO.ite ?_ ?_
   | refine LeO.bind ?_ (fun _ => ?_)
def gangwayref06_Build.T4 : Bool × List (List Nat × List Nat) := (true, [([], []), ([], []), ([1], [1]), ([2, 2], [2]), ([0, 3, 3], [0, 3]), ([], []), ([5], [5]), ([4, 6], [4, 6]), ([7, 4, 0, 1, 2, 3, 4, 5, 6, 7], [7]), ([8, 0, 1, 2, 3, 4, 5, 6, 7, 8], [])])
def gangwayref06_Build.B4 : List Nat := [0, 0, 2, 6, 15, 0, 32, 127, 255, 511]
theorem gangwayref06_Build.tab4 : rtab .any (opsOf Tryd.f26 4) = gangwayref06_Build.T4 := by kernel_rfl
theorem gangwayref06_Build.bits4 : waitsOk gangwayref06_Build.T4.2 gangwayref06_Build.B4 = true := by kernel_rfl
set_option maxHeartbeats 8000000 in
set_option maxRecDepth 100000 in
theorem gangwayref06_Build.calls (k : Nat) (a0_0 : Int) (a0_1 : Int) (a0_2 : Bool) (a0_3 : Bool) (a0_4 : Int) (a0_5 : Int) (a0_6 : Int) (a0_7 : Int) (a0_8 : Int) (a0_9 : ByteArray) (r1 : ByteArray) (r2 : Int) (w : World) (h : gangwayref06_Build.f k a0_0 a0_1 a0_2 a0_3 a0_4 a0_5 a0_6 a0_7 a0_8 a0_9 = some (r1, r2)) :
  Calls Tryd.prog 26 #[.agg #[.int .i64 a0_0, .int .i64 a0_1, .bool a0_2, .bool a0_3, .int .i64 a0_4, .int .i64 a0_5, .int .i64 a0_6, .int .u32 a0_7, .int .u32 a0_8, .string a0_9]] w fun e w' => e = .returned (.tuple #[.string r1, .int .i64 r2]) ∧ Below w.heap.size w w' := by
 have hu64 := Tryd.underlying64
 have HB := Aside0.mk (Below.refl w.heap.size w)
 have H := h
 unfold gangwayref06_Build.f at H
 clear h
 replace H := Option.bind_eq_some_iff.mp H
 obtain ⟨t603, A20, H⟩ := H
 try dsimp only at H
 have A2 := Aside0.mk A20
 clear A20
 by_cases c3 : t603 = 0
 ·rw [if_pos c3] at H
  have c3b0 : (t603 == 0) = true := beq_iff_eq.mpr c3
  have c3b1 : (t603 != 0) = false := bne_eq_false_iff_eq.mpr c3
  clear c3
  replace H := Option.bind_eq_some_iff.mp H
  obtain ⟨t604, A40, H⟩ := H
  try dsimp only at H
  have A4 := Aside0.mk A40
  clear A40
  replace H := Option.bind_eq_some_iff.mp H
  obtain ⟨t605, A50, H⟩ := H
  try dsimp only at H
  have A5 := Aside0.mk A50
  clear A50
  replace H := Option.bind_eq_some_iff.mp H
  obtain ⟨t606, A60, H⟩ := H
  try dsimp only at H
  have A6 := Aside0.mk A60
  clear A60
  by_cases c7 : t606.size + a0_9.size ≤ 9223372036854775807
  ·rw [if_pos c7] at H
   have c7b0 := eq_true c7
   have c7b1 : decide (t606.size + a0_9.size ≤ 9223372036854775807) = true := decide_eq_true c7
   try have c7b2 : (9223372036854775807 < t606.size + a0_9.size) = False := eq_false (Nat.not_lt.2 c7)
   simp only [Option.some.injEq, Prod.mk.injEq] at H
   obtain ⟨rfl, rfl⟩ := H
   go_enter Tryd.func26, Tryd.ntmps26
   try go_wp2_with (first | ((with_reducible refine gate_st (ty := 64) rfl ?_); refine storeC10 rfl rfl rfl rfl rfl q2d4 qr2c qg3m rfl ?_) | ((with_reducible refine gate_ld (ty := 64) rfl ?_); (try (with_reducible refine gate_gd rfl ?_; refine gate_guard q8ju ?_; dsimp only)); refine load_st rfl rfl rfl q2d4 qr2c Tryd.underlying64 rfl qg3m ?_; (try simp only [Act.put, List.setIfInBounds_toArray, List.set_cons_zero, List.set_cons_succ])) | ((with_reducible refine gate_dst (N := 1) rfl ?_); refine box_event qgcr (N := 1) qgcr (cs := #[.int .i64 a0_0, .int .i64 a0_1, .bool a0_2, .bool a0_3, .int .i64 a0_4, .int .i64 a0_5, .int .i64 a0_6, .int .u32 a0_7, .int .u32 a0_8, .string a0_9]) (t := 64) qlto ?_; intro gb602 hg w8 hbox hb; have BK602 := Aside0.mk (hbox); have GE602 := Aside0.mk ((qisx : w.heap.size ≤ gb602)); replace HB := Aside0.mk (below_step qpag hb); clear hb hbox hg; obtain ⟨hcz9_0, hcz9_1, hcz9_2, hcz9_3, hcz9_4, hcz9_5, hcz9_6, hcz9_7, hcz9_8, hcz9_9⟩ := cells10 BK602.out; obtain ⟨hfz9_0, hfz9_1, hfz9_2, hfz9_3, hfz9_4, hfz9_5, hfz9_6, hfz9_7, hfz9_8, hfz9_9⟩ := frozen10 BK602.out) | ((with_reducible refine gate_callee (f := 52) rfl ?_); refine goesL_ (some 6) rfl rfl Tryd.func52 qg3m rfl #[.agg #[.int .i64 a0_0, .int .i64 a0_1, .bool a0_2, .bool a0_3, .int .i64 a0_4, .int .i64 a0_5, .int .i64 a0_6, .int .u32 a0_7, .int .u32 a0_8, .string a0_9]] rfl qraq ?_; (with_reducible refine (gangwayref06_Check.calls a0_0 a0_1 a0_2 a0_3 a0_4 a0_5 a0_6 a0_7 a0_8 a0_9 t603 _ A2.out).mono ?_); rintro e w10 ⟨rfl, hb⟩; refine ⟨_, rfl, ?_⟩; replace BK602 := Aside0.mk (blk_below (g := gb602) qdpl hb); replace HB := Aside0.mk (below_step qlew hb); obtain ⟨hcy1_602_0, hcy1_602_1, hcy1_602_2, hcy1_602_3, hcy1_602_4, hcy1_602_5, hcy1_602_6, hcy1_602_7, hcy1_602_8, hcy1_602_9⟩ := cells10 BK602.out; (try clear hb); (try clear hb2); (try clear hk); (try clear hi)))
   replace BK602 := Aside0.mk (blk_drew BK602.out)
   replace HB := Aside0.mk (below_drew1 HB.out)
   refine start_ (n := 10) (S := fun w' => w'.cell? ⟨gb602, 0, none⟩ = some (.int .i64 a0_0) ∧ w'.cell? ⟨gb602, 1, none⟩ = some (.int .i64 a0_1) ∧ w'.cell? ⟨gb602, 2, none⟩ = some (.bool a0_2) ∧ w'.cell? ⟨gb602, 3, none⟩ = some (.bool a0_3) ∧ w'.cell? ⟨gb602, 4, none⟩ = some (.int .i64 a0_4) ∧ w'.cell? ⟨gb602, 5, none⟩ = some (.int .i64 a0_5) ∧ w'.cell? ⟨gb602, 6, none⟩ = some (.int .i64 a0_6) ∧ w'.cell? ⟨gb602, 7, none⟩ = some (.int .u32 a0_7) ∧ w'.cell? ⟨gb602, 8, none⟩ = some (.int .u32 a0_8) ∧ w'.cell? ⟨gb602, 9, none⟩ = some (.string a0_9)) (ds := []) (ba 10 0) qg3m rfl rfl ⟨(blk_cell BK602.out 0).trans rfl, (blk_cell BK602.out 1).trans rfl, (blk_cell BK602.out 2).trans rfl, (blk_cell BK602.out 3).trans rfl, (blk_cell BK602.out 4).trans rfl, (blk_cell BK602.out 5).trans rfl, (blk_cell BK602.out 6).trans rfl, (blk_cell BK602.out 7).trans rfl, (blk_cell BK602.out 8).trans rfl, (blk_cell BK602.out 9).trans rfl⟩ (fun hHeld => ?_); refine with_tabW gangwayref06_Build.tab4 gangwayref06_Build.bits4 (fun HT_ HW_ => ?_)
   generalize w10.drew = w11 at BK602 HB hHeld ⊢
   refine pu_c3d (i := 5) (N := some 15) (ba 10 32) ?_
   refine tk_d0b (i := 0) (N := some 10) (ba 10 33) hHeld ?_
   refine tk_d0b (i := 1) (N := some 11) (ba 10 35) hHeld ?_
   refine tk_d0b (i := 6) (N := some 16) (ba 10 99) hHeld ?_
   refine one_ (i := 2) (N := some 12) (ba 10 103) rfl rfl (one_of HT_.out qg3m) qomw (fun K hK => ?_)
   refine goes_ Tryd.func53 qg3m rfl #[.agg #[.int .i64 a0_0, .int .i64 a0_1, .bool a0_2, .bool a0_3, .int .i64 a0_4, .int .i64 a0_5, .int .i64 a0_6, .int .u32 a0_7, .int .u32 a0_8, .string a0_9], .int .i64 0] qlo1 rfl rfl qraq ?_
   with_reducible refine (gangwayref06_Head.calls k a0_0 a0_1 a0_2 a0_3 a0_4 a0_5 a0_6 a0_7 a0_8 a0_9 0 t604 _ A4.out).mono ?_
   rintro e w12 ⟨rfl, hb⟩
   refine ⟨_, rfl, ?_⟩
   replace BK602 := Aside0.mk (blk_below (g := gb602) (o := .cells #[.int .i64 a0_0, .int .i64 a0_1, .bool a0_2, .bool a0_3, .int .i64 a0_4, .int .i64 a0_5, .int .i64 a0_6, .int .u32 a0_7, .int .u32 a0_8, .string a0_9] 64 (0, 0)) qdpl hb)
   replace HB := Aside0.mk (below_step qlew hb)
   (try clear hb)
   (try clear hb2)
   (try clear hk)
   (try clear hi)
   refine hK.out _ _ qknc (fun hHeld => ?_)
   clear hK K
   refine norm_ (a' := ?_) ?_ ?_
   rotate_left
   ·show Act.put _ (some 12) _ = _
    simp only [Act.put, List.setIfInBounds_toArray, List.set_cons_zero, List.set_cons_succ, i64_w, i32_w]
    rfl
   refine one_ (i := 3) (N := some 13) (ba 10 111) rfl rfl (one_of HT_.out qg3m) qomw (fun K hK => ?_)
   refine goes_ Tryd.func38 qg3m rfl #[.string t604] qlo1 rfl rfl qraq ?_
   with_reducible refine (gangwayref03_Of.calls k t604 t605 _ A5.out).mono ?_
   rintro e w' ⟨rfl, ⟨nd, rfl⟩⟩
   refine ⟨_, rfl, ?_⟩
   refine hK.out _ _ qknc (fun hHeld => ?_)
   clear hK K
   refine norm_ (a' := ?_) ?_ ?_
   rotate_left
   ·show Act.put _ (some 13) _ = _
    simp only [Act.put, List.setIfInBounds_toArray, List.set_cons_zero, List.set_cons_succ, i64_w, i32_w]
    rfl
   refine one_ (i := 4) (N := some 14) (ba 10 127) rfl rfl (one_of HT_.out qg3m) qomw (fun K hK => ?_)
   refine goes_ Tryd.func53 qg3m rfl #[.agg #[.int .i64 a0_0, .int .i64 a0_1, .bool a0_2, .bool a0_3, .int .i64 a0_4, .int .i64 a0_5, .int .i64 a0_6, .int .u32 a0_7, .int .u32 a0_8, .string a0_9], .int .i64 t605] qlo1 rfl rfl qraq ?_
   with_reducible refine (gangwayref06_Head.calls k a0_0 a0_1 a0_2 a0_3 a0_4 a0_5 a0_6 a0_7 a0_8 a0_9 t605 t606 _ A6.out).mono ?_
   rintro e w13 ⟨rfl, hb⟩
   refine ⟨_, rfl, ?_⟩
   replace BK602 := Aside0.mk (blk_below (g := gb602) (o := .cells #[.int .i64 a0_0, .int .i64 a0_1, .bool a0_2, .bool a0_3, .int .i64 a0_4, .int .i64 a0_5, .int .i64 a0_6, .int .u32 a0_7, .int .u32 a0_8, .string a0_9] 64 (0, 0)) qdpl hb)
   replace HB := Aside0.mk (below_step qlew hb)
   (try clear hb)
   (try clear hb2)
   (try clear hk)
   (try clear hi)
   refine hK.out _ _ qknc (fun hHeld => ?_)
   clear hK K
   refine norm_ (a' := ?_) ?_ ?_
   rotate_left
   ·show Act.put _ (some 14) _ = _
    simp only [Act.put, List.setIfInBounds_toArray, List.set_cons_zero, List.set_cons_succ, i64_w, i32_w]
    rfl
   refine pu_c3d (i := 7) (N := some 17) (ba 10 255) ?_
   refine pu_c3d (i := 8) (N := some 2) (ba 10 511) ?_
   refine pu_c3d (i := 9) (N := some 3) (ba 10 1023) ?_
   refine done_ (done_of HT_.out qg3m) ?_
   try go_wp2_with (first | ((with_reducible refine gate_st (ty := 64) rfl ?_); refine storeC10 rfl rfl rfl rfl rfl q2d4 qr2c qg3m rfl ?_) | ((with_reducible refine gate_ld (ty := 64) rfl ?_); (try (with_reducible refine gate_gd rfl ?_; refine gate_guard q8ju ?_; dsimp only)); refine load_st rfl rfl rfl q2d4 qr2c Tryd.underlying64 rfl qg3m ?_; (try simp only [Act.put, List.setIfInBounds_toArray, List.set_cons_zero, List.set_cons_succ])) | go_in)
   go_ret2
   exact ⟨qxu5, qlew⟩
  ·rw [if_neg c7] at H
   exact absurd H q6hr
 ·rw [if_neg c3] at H
  have c3b0 : (t603 == 0) = false := beq_eq_false_iff_ne.mpr c3
  have c3b1 : (t603 != 0) = true := bne_iff_ne.mpr c3
  simp only [Option.some.injEq, Prod.mk.injEq] at H
  obtain ⟨rfl, rfl⟩ := H
  go_enter Tryd.func26, Tryd.ntmps26
  go_wp2_with (first | ((with_reducible refine gate_st (ty := 64) rfl ?_); refine storeC10 rfl rfl rfl rfl rfl q2d4 qr2c qg3m rfl ?_) | ((with_reducible refine gate_ld (ty := 64) rfl ?_); (try (with_reducible refine gate_gd rfl ?_; refine gate_guard q8ju ?_; dsimp only)); refine load_st rfl rfl rfl q2d4 qr2c Tryd.underlying64 rfl qg3m ?_; (try simp only [Act.put, List.setIfInBounds_toArray, List.set_cons_zero, List.set_cons_succ])) | ((with_reducible refine gate_dst (N := 1) rfl ?_); refine box_event qgcr (N := 1) qgcr (cs := #[.int .i64 a0_0, .int .i64 a0_1, .bool a0_2, .bool a0_3, .int .i64 a0_4, .int .i64 a0_5, .int .i64 a0_6, .int .u32 a0_7, .int .u32 a0_8, .string a0_9]) (t := 64) qlto ?_; intro gb602 hg w14 hbox hb; have BK602 := Aside0.mk (hbox); have GE602 := Aside0.mk ((qisx : w.heap.size ≤ gb602)); replace HB := Aside0.mk (below_step qpag hb); clear hb hbox hg; obtain ⟨hcz15_0, hcz15_1, hcz15_2, hcz15_3, hcz15_4, hcz15_5, hcz15_6, hcz15_7, hcz15_8, hcz15_9⟩ := cells10 BK602.out; obtain ⟨hfz15_0, hfz15_1, hfz15_2, hfz15_3, hfz15_4, hfz15_5, hfz15_6, hfz15_7, hfz15_8, hfz15_9⟩ := frozen10 BK602.out) | ((with_reducible refine gate_callee (f := 52) rfl ?_); refine goesL_ (some 6) rfl rfl Tryd.func52 qg3m rfl #[.agg #[.int .i64 a0_0, .int .i64 a0_1, .bool a0_2, .bool a0_3, .int .i64 a0_4, .int .i64 a0_5, .int .i64 a0_6, .int .u32 a0_7, .int .u32 a0_8, .string a0_9]] rfl qraq ?_; (with_reducible refine (gangwayref06_Check.calls a0_0 a0_1 a0_2 a0_3 a0_4 a0_5 a0_6 a0_7 a0_8 a0_9 t603 _ A2.out).mono ?_); rintro e w16 ⟨rfl, hb⟩; refine ⟨_, rfl, ?_⟩; replace BK602 := Aside0.mk (blk_below (g := gb602) qdpl hb); replace HB := Aside0.mk (below_step qlew hb); obtain ⟨hcy1_602_0, hcy1_602_1, hcy1_602_2, hcy1_602_3, hcy1_602_4, hcy1_602_5, hcy1_602_6, hcy1_602_7, hcy1_602_8, hcy1_602_9⟩ := cells10 BK602.out; (try clear hb); (try clear hb2); (try clear hk); (try clear hi)))
  go_ret2
  exact ⟨qxu5, qlew⟩

end Go.Proofs.YtbkgaplldfilnaaDoor.P
