-- slim
-- Written by wip/hprint.py (this session's program) through the kit's print program; hand contracts are marked 'by hand'.
import Derived.Test.YtbkgaplldfilnaaDoorAbb
import Derived.Test.YtbkgaplldfilnaaDoorRow
import Derived.Test.YtbkgaplldfilnaaDoorPx0
import Derived.Test.YtbkgaplldfilnaaDoorPx10
import Derived.Test.YtbkgaplldfilnaaDoorPx30
namespace Go.Proofs.YtbkgaplldfilnaaDoor.P
open Go.RowKit Go.Proofs.YtbkgaplldfilnaaDoorW.PrintWords Go.Proofs.YtbkgaplldfilnaaDoorW.PrintLast Go.Proofs.YtbkgaplldfilnaaDoorW.PrintMore
attribute [local go_sem] max2_int min2_int max_two min_two max_three min_three max_four min_four   -- for this text's walks alone
set_option linter.unusedVariables false
set_option linter.unusedSimpArgs false

theorem qex1 {p : Prop} (h : p := by (with_reducible repeat (first | apply Kd.R_alloc | apply Kd.R_drewN | apply Kd.R_drew)); exact HO439.out) : p := h
theorem qja1 {p : Prop} (h : p := by (with_reducible repeat (first | refine blk_drewN ?_ _ | refine blk_drew ?_ | refine blk_alloc ?_ _)); exact BK430.out) : p := h
theorem qxo9 {p : Prop} (h : p := by exact ⟨(blk_cell BK430.out 0).trans rfl, (blk_cell BK430.out 1).trans rfl, (blk_cell BK430.out 2).trans rfl, (blk_cell BK430.out 3).trans rfl⟩) : p := h
theorem qq6l {p : Prop} (h : p := by repeat (first | (with_reducible first | exact HB.out | apply below_alloc | apply pw_below_drewN | apply below_drew1 | refine below_set ?_ GE430.out) | exact HB.out)) : p := h
/-! ### udp_Build: function 23 -/
def udp_Build.f (k : Nat) (a0 : Int) (a1 : Int) (a2_0 : Int) (a2_1 : Int) (a2_2 : Bool) (a2_3 : ByteArray) : Option (ByteArray × Int) := (udp_Check.f a2_0 a2_1 a2_2 a2_3).bind fun t431 => (if t431 = 0 then ((udp_word.f k a2_0).bind fun t432 => ((udp_word.f k a2_1).bind fun t433 => (if t432.size + t433.size ≤ 9223372036854775807 then ((udp_word.f k (wrap64 (8 + (a2_3.size : Int)))).bind fun t434 => (if (t432 ++ t433).size + t434.size ≤ 9223372036854775807 then (if a2_2 = true then ((udp_word.f k 0).bind fun t435 => (if ((t432 ++ t433) ++ t434).size + t435.size ≤ 9223372036854775807 then (if (((t432 ++ t433) ++ t434) ++ t435).size + a2_3.size ≤ 9223372036854775807 then (some ((((t432 ++ t433) ++ t434) ++ t435) ++ a2_3, 0)) else (none)) else (none))) else ((csum_Head.f k a0 a1 17 (wrap64 (8 + (a2_3.size : Int)))).bind fun t436 => ((csum_Of.f k (([t436, (t432 ++ t433) ++ t434, a2_3] : List ByteArray))).bind fun t440 => (if t440 = 0 then ((udp_word.f k 65535).bind fun t441 => (if ((t432 ++ t433) ++ t434).size + t441.size ≤ 9223372036854775807 then (if (((t432 ++ t433) ++ t434) ++ t441).size + a2_3.size ≤ 9223372036854775807 then (some ((((t432 ++ t433) ++ t434) ++ t441) ++ a2_3, 0)) else (none)) else (none))) else ((udp_word.f k t440).bind fun t442 => (if ((t432 ++ t433) ++ t434).size + t442.size ≤ 9223372036854775807 then (if (((t432 ++ t433) ++ t434) ++ t442).size + a2_3.size ≤ 9223372036854775807 then (some ((((t432 ++ t433) ++ t434) ++ t442) ++ a2_3, 0)) else (none)) else (none))))))) else (none))) else (none)))) else (some ((⟨#[]⟩ : ByteArray), t431)))
theorem udp_Build.mono : ∀ a0 a1 a2 a3 a4 a5 k, LeO (udp_Build.f k a0 a1 a2 a3 a4 a5) (udp_Build.f (k + 1) a0 a1 a2 a3 a4 a5) := by
 intro a0 a1 a2 a3 a4 a5 k
 unfold udp_Build.f
 repeat' first
   | (with_reducible exact csum_Head.mono _ _ _ _ _)
   | (with_reducible exact csum_Of.mono _ _)
   | (with_reducible exact udp_word.mono _ _)
   | (with_reducible exact LeO.refl _)
   | (with_reducible exact LeO.none _)
   | (with_reducible refine LeO.ite ?_ ?_)
   | (with_reducible refine LeO.bind ?_ (fun _ => ?_))
   | exact csum_Head.mono _ _ _ _ _
   | exact csum_Of.mono _ _
   | exact udp_word.mono _ _
   | exact LeO.none _
   | refine LeO.ite ?_ ?_
   | refine LeO.bind ?_ (fun _ => ?_)
def udp_Build.T5 : Bool × List (List Nat × List Nat) := (true, [([], []), ([0], [0]), ([1], [1]), ([], []), ([3], [3]), ([4, 2], [4]), ([2, 5], [2, 5]), ([], []), ([7, 5], [7]), ([6, 8], [6, 8]), ([9, 8, 0, 1, 2, 3, 4, 5, 6, 7, 8, 9], [9])])
def udp_Build.B5 : List Nat := [0, 1, 3, 0, 8, 31, 63, 0, 191, 511, 1023]
theorem udp_Build.tab5 : rtab .any (opsOf Tryd.f23 5) = udp_Build.T5 := by kernel_rfl
theorem udp_Build.bits5 : waitsOk udp_Build.T5.2 udp_Build.B5 = true := by kernel_rfl
def udp_Build.T8 : Bool × List (List Nat × List Nat) := (true, [([], []), ([], []), ([], []), ([0, 1, 2], [0, 1, 2]), ([], []), ([], []), ([5], [5]), ([3, 4, 6], [3, 4, 6]), ([7, 3], [7]), ([8, 8, 0, 1, 2, 3, 4, 5, 6, 7, 8], [8])])
def udp_Build.B8 : List Nat := [0, 0, 0, 7, 0, 0, 32, 127, 255, 511]
theorem udp_Build.tab8 : rtab .any (opsOf Tryd.f23 8) = udp_Build.T8 := by kernel_rfl
theorem udp_Build.bits8 : waitsOk udp_Build.T8.2 udp_Build.B8 = true := by kernel_rfl
def udp_Build.T11 : Bool × List (List Nat × List Nat) := (true, [([], []), ([], []), ([1], [1]), ([0, 2], [0, 2]), ([], []), ([4], [4]), ([3, 5], [3, 5]), ([6, 2, 0, 1, 2, 3, 4, 5, 6], [6]), ([7, 0, 1, 2, 3, 4, 5, 6, 7], [])])
def udp_Build.B11 : List Nat := [0, 0, 2, 7, 0, 16, 63, 127, 255]
theorem udp_Build.tab11 : rtab .any (opsOf Tryd.f23 11) = udp_Build.T11 := by kernel_rfl
theorem udp_Build.bits11 : waitsOk udp_Build.T11.2 udp_Build.B11 = true := by kernel_rfl
theorem z31_0 {p : Prop} (h : p := by
 show Act.put _ (some 23) _ = _
 simp only [Act.put, List.setIfInBounds_toArray, List.set_cons_zero, List.set_cons_succ, i64_w, i32_w]
 rfl) : p := h
theorem z31_1 {p : Prop} (h : p := by
 show Act.put _ (some 26) _ = _
 simp only [Act.put, List.setIfInBounds_toArray, List.set_cons_zero, List.set_cons_succ, i64_w, i32_w]
 rfl) : p := h
theorem z31_2 {p : Prop} (h : p := by
 show Act.put _ (some 29) _ = _
 simp only [Act.put, List.setIfInBounds_toArray, List.set_cons_zero, List.set_cons_succ, i64_w, i32_w]
 rfl) : p := h
theorem z31_3 {p : Prop} (h : p := by
 show Act.put _ (some 47) _ = _
 simp only [Act.put, List.setIfInBounds_toArray, List.set_cons_zero, List.set_cons_succ, i64_w, i32_w]
 rfl) : p := h
theorem z31_4 {p : Prop} (h : p := by
 show Act.put _ (some 37) _ = _
 simp only [Act.put, List.setIfInBounds_toArray, List.set_cons_zero, List.set_cons_succ, i64_w, i32_w]
 rfl) : p := h
theorem z31_5 {p : Prop} (h : p := by
 show Act.put _ (some 41) _ = _
 simp only [Act.put, List.setIfInBounds_toArray, List.set_cons_zero, List.set_cons_succ, i64_w, i32_w]
 rfl) : p := h
theorem z31_6 {p : Prop} (h : p := by
 show Act.put _ (some 42) _ = _
 simp only [Act.put, List.setIfInBounds_toArray, List.set_cons_zero, List.set_cons_succ, i64_w, i32_w]
 rfl) : p := h
set_option maxHeartbeats 8000000 in
set_option maxRecDepth 100000 in
theorem udp_Build.calls (k : Nat) (a0 : Int) (a1 : Int) (a2_0 : Int) (a2_1 : Int) (a2_2 : Bool) (a2_3 : ByteArray) (r1 : ByteArray) (r2 : Int) (w : World) (h : udp_Build.f k a0 a1 a2_0 a2_1 a2_2 a2_3 = some (r1, r2)) :
  Calls Tryd.prog 23 #[.int .u32 a0, .int .u32 a1, .agg #[.int .i64 a2_0, .int .i64 a2_1, .bool a2_2, .string a2_3]] w fun e w' => e = .returned (.tuple #[.string r1, .int .i64 r2]) ∧ Below w.heap.size w w' := by
 have hu31 := Tryd.underlying31
 have HB := Aside0.mk (Below.refl w.heap.size w)
 have H := h
 unfold udp_Build.f at H
 clear h
 replace H := Option.bind_eq_some_iff.mp H
 obtain ⟨t431, A40, H⟩ := H
 try dsimp only at H
 have A4 := Aside0.mk A40
 clear A40
 by_cases c5 : t431 = 0
 ·rw [if_pos c5] at H
  have c5b0 : (t431 == 0) = true := beq_iff_eq.mpr c5
  have c5b1 : (t431 != 0) = false := bne_eq_false_iff_eq.mpr c5
  clear c5
  replace H := Option.bind_eq_some_iff.mp H
  obtain ⟨t432, A60, H⟩ := H
  try dsimp only at H
  have A6 := Aside0.mk A60
  clear A60
  replace H := Option.bind_eq_some_iff.mp H
  obtain ⟨t433, A70, H⟩ := H
  try dsimp only at H
  have A7 := Aside0.mk A70
  clear A70
  by_cases c8 : t432.size + t433.size ≤ 9223372036854775807
  ·rw [if_pos c8] at H
   have c8b0 := eq_true c8
   have c8b1 : decide (t432.size + t433.size ≤ 9223372036854775807) = true := decide_eq_true c8
   try have c8b2 : (9223372036854775807 < t432.size + t433.size) = False := eq_false (Nat.not_lt.2 c8)
   replace H := Option.bind_eq_some_iff.mp H
   obtain ⟨t434, A90, H⟩ := H
   try dsimp only at H
   have A9 := Aside0.mk A90
   clear A90
   by_cases c10 : (t432 ++ t433).size + t434.size ≤ 9223372036854775807
   ·rw [if_pos c10] at H
    have c10b0 := eq_true c10
    have c10b1 : decide ((t432 ++ t433).size + t434.size ≤ 9223372036854775807) = true := decide_eq_true c10
    have c10z := c10
    simp only [ByteArray.size_append] at c10z
    have c10z1 := eq_true c10z
    have c10z2 := eq_false (Nat.not_lt.2 c10z)
    try have c10b2 : (9223372036854775807 < (t432 ++ t433).size + t434.size) = False := eq_false (Nat.not_lt.2 c10)
    by_cases c11 : a2_2 = true
    ·subst c11
     rw [if_pos rfl] at H
     replace H := Option.bind_eq_some_iff.mp H
     obtain ⟨t435, A120, H⟩ := H
     try dsimp only at H
     have A12 := Aside0.mk A120
     clear A120
     by_cases c13 : ((t432 ++ t433) ++ t434).size + t435.size ≤ 9223372036854775807
     ·rw [if_pos c13] at H
      have c13b0 := eq_true c13
      have c13b1 : decide (((t432 ++ t433) ++ t434).size + t435.size ≤ 9223372036854775807) = true := decide_eq_true c13
      have c13z := c13
      simp only [ByteArray.size_append] at c13z
      have c13z1 := eq_true c13z
      have c13z2 := eq_false (Nat.not_lt.2 c13z)
      try have c13b2 : (9223372036854775807 < ((t432 ++ t433) ++ t434).size + t435.size) = False := eq_false (Nat.not_lt.2 c13)
      by_cases c14 : (((t432 ++ t433) ++ t434) ++ t435).size + a2_3.size ≤ 9223372036854775807
      ·rw [if_pos c14] at H
       have c14b0 := eq_true c14
       have c14b1 : decide ((((t432 ++ t433) ++ t434) ++ t435).size + a2_3.size ≤ 9223372036854775807) = true := decide_eq_true c14
       have c14z := c14
       simp only [ByteArray.size_append] at c14z
       have c14z1 := eq_true c14z
       have c14z2 := eq_false (Nat.not_lt.2 c14z)
       try have c14b2 : (9223372036854775807 < (((t432 ++ t433) ++ t434) ++ t435).size + a2_3.size) = False := eq_false (Nat.not_lt.2 c14)
       simp only [Option.some.injEq, Prod.mk.injEq] at H
       obtain ⟨rfl, rfl⟩ := H
       go_enter Tryd.func23, Tryd.ntmps23
       try go_wp2_with (first | ((with_reducible refine gate_dst (N := 5) rfl ?_); refine box_event qgcr (N := 5) qgcr (cs := #[.int .i64 a2_0, .int .i64 a2_1, .bool true, .string a2_3]) (t := 31) qlto ?_; intro gb430 hg w15 hbox hb; have BK430 := Aside0.mk (hbox); have GE430 := Aside0.mk ((qisx : w.heap.size ≤ gb430)); replace HB := Aside0.mk (below_step qpag hb); clear hb hbox hg; obtain ⟨hcz16_0, hcz16_1, hcz16_2, hcz16_3⟩ := cells4 BK430.out; obtain ⟨hfz16_0, hfz16_1, hfz16_2, hfz16_3⟩ := frozen4 BK430.out) | ((with_reducible refine gate_callee (f := 42) rfl ?_); refine goesL_ (some 13) rfl rfl Tryd.func42 qg3m rfl #[.agg #[.int .i64 a2_0, .int .i64 a2_1, .bool true, .string a2_3]] rfl qraq ?_; (with_reducible refine (udp_Check.calls a2_0 a2_1 true a2_3 t431 _ A4.out).mono ?_); rintro e w17 ⟨rfl, hb⟩; refine ⟨_, rfl, ?_⟩; replace BK430 := Aside0.mk (blk_below (g := gb430) qja1 hb); replace HB := Aside0.mk (below_step qq6l hb); (try clear hb); (try clear hb2); (try clear hk); (try clear hi); obtain ⟨hcz18_0, hcz18_1, hcz18_2, hcz18_3⟩ := cells4 BK430.out; obtain ⟨hfz18_0, hfz18_1, hfz18_2, hfz18_3⟩ := frozen4 BK430.out))
       replace BK430 := Aside0.mk (blk_drew BK430.out)
       replace HB := Aside0.mk (below_drew1 HB.out)
       refine start_ (n := 11) (S := fun w' => w'.cell? ⟨gb430, 0, none⟩ = some (.int .i64 a2_0) ∧ w'.cell? ⟨gb430, 1, none⟩ = some (.int .i64 a2_1) ∧ w'.cell? ⟨gb430, 2, none⟩ = some (.bool true) ∧ w'.cell? ⟨gb430, 3, none⟩ = some (.string a2_3)) (ds := []) (ba 11 0) qg3m rfl rfl ⟨(blk_cell BK430.out 0).trans rfl, (blk_cell BK430.out 1).trans rfl, (blk_cell BK430.out 2).trans rfl, (blk_cell BK430.out 3).trans rfl⟩ (fun hHeld => ?_); refine with_tabW udp_Build.tab5 udp_Build.bits5 (fun HT_ HW_ => ?_)
       generalize w17.drew = w19 at BK430 HB hHeld ⊢
       refine pu_c3d (i := 0) (N := some 21) (ba 11 1) ?_
       refine pu_c3d (i := 3) (N := some 24) (ba 11 9) ?_
       refine pu_c3d (i := 7) (N := some 28) (ba 11 137) ?_
       refine tk_15c (i := 1) (N := some 22) (ba 11 139) hHeld ?_
       refine tk_15c (i := 4) (N := some 25) (ba 11 155) hHeld ?_
       refine one_ (i := 2) (N := some 23) (ba 11 159) rfl rfl (one_of HT_.out qg3m) qomw (fun K hK => ?_)
       refine goes_ Tryd.func43 qg3m rfl #[.int .i64 a2_0] qlo1 rfl rfl qraq ?_
       with_reducible refine (udp_word.calls k a2_0 t432 _ A6.out).mono ?_
       rintro e w20 ⟨rfl, hb⟩
       refine ⟨_, rfl, ?_⟩
       replace BK430 := Aside0.mk (blk_below (g := gb430) (o := .cells #[.int .i64 a2_0, .int .i64 a2_1, .bool true, .string a2_3] 31 (0, 0)) qja1 hb)
       replace HB := Aside0.mk (below_step qq6l hb)
       (try clear hb)
       (try clear hb2)
       (try clear hk)
       (try clear hi)
       refine hK.out _ _ qxo9 (fun hHeld => ?_)
       clear hK K
       refine norm_ (a' := ?_) ?_ ?_
       rotate_left
       ·exact z31_0
       refine one_ (i := 5) (N := some 26) (ba 11 191) rfl rfl (one_of HT_.out qg3m) qomw (fun K hK => ?_)
       refine goes_ Tryd.func43 qg3m rfl #[.int .i64 a2_1] qlo1 rfl rfl qraq ?_
       with_reducible refine (udp_word.calls k a2_1 t433 _ A7.out).mono ?_
       rintro e w21 ⟨rfl, hb⟩
       refine ⟨_, rfl, ?_⟩
       replace BK430 := Aside0.mk (blk_below (g := gb430) (o := .cells #[.int .i64 a2_0, .int .i64 a2_1, .bool true, .string a2_3] 31 (0, 0)) qja1 hb)
       replace HB := Aside0.mk (below_step qq6l hb)
       (try clear hb)
       (try clear hb2)
       (try clear hk)
       (try clear hi)
       refine hK.out _ _ qxo9 (fun hHeld => ?_)
       clear hK K
       refine norm_ (a' := ?_) ?_ ?_
       rotate_left
       ·exact z31_1
       refine pu_c3d (i := 6) (N := some 27) (ba 11 255) ?_
       refine one_ (i := 8) (N := some 29) (ba 11 511) rfl rfl (one_of HT_.out qg3m) qomw (fun K hK => ?_)
       refine goes_ Tryd.func43 qg3m rfl #[.int .i64 (wrap64 (8 + (a2_3.size : Int)))] qlo1 rfl rfl qraq ?_
       with_reducible refine (udp_word.calls k (wrap64 (8 + (a2_3.size : Int))) t434 _ A9.out).mono ?_
       rintro e w22 ⟨rfl, hb⟩
       refine ⟨_, rfl, ?_⟩
       replace BK430 := Aside0.mk (blk_below (g := gb430) (o := .cells #[.int .i64 a2_0, .int .i64 a2_1, .bool true, .string a2_3] 31 (0, 0)) qja1 hb)
       replace HB := Aside0.mk (below_step qq6l hb)
       (try clear hb)
       (try clear hb2)
       (try clear hk)
       (try clear hi)
       refine hK.out _ _ qxo9 (fun hHeld => ?_)
       clear hK K
       refine norm_ (a' := ?_) ?_ ?_
       rotate_left
       ·exact z31_2
       refine pu_c3d (i := 9) (N := some 30) (ba 11 1023) ?_
       refine pu_c3d (i := 10) (N := some 10) (ba 11 2047) ?_
       refine done_ (done_of HT_.out qg3m) ?_
       obtain ⟨hcz23_0, hcz23_1, hcz23_2, hcz23_3⟩ := cells4 BK430.out
       obtain ⟨hfz23_0, hfz23_1, hfz23_2, hfz23_3⟩ := frozen4 BK430.out
       try go_wp2
       replace BK430 := Aside0.mk (blk_drew BK430.out)
       replace HB := Aside0.mk (below_drew1 HB.out)
       refine start_ (n := 9) (S := fun w' => w'.cell? ⟨gb430, 0, none⟩ = some (.int .i64 a2_0) ∧ w'.cell? ⟨gb430, 1, none⟩ = some (.int .i64 a2_1) ∧ w'.cell? ⟨gb430, 2, none⟩ = some (.bool true) ∧ w'.cell? ⟨gb430, 3, none⟩ = some (.string a2_3)) (ds := []) (ba 9 0) qg3m rfl rfl ⟨(blk_cell BK430.out 0).trans rfl, (blk_cell BK430.out 1).trans rfl, (blk_cell BK430.out 2).trans rfl, (blk_cell BK430.out 3).trans rfl⟩ (fun hHeld => ?_); refine with_tabW udp_Build.tab11 udp_Build.bits11 (fun HT_ HW_ => ?_)
       generalize w22.drew = w24 at BK430 HB hHeld ⊢
       refine pu_c3d (i := 0) (N := some 45) (ba 9 1) ?_
       refine pu_c3d (i := 1) (N := some 46) (ba 9 3) ?_
       refine pu_c3d (i := 4) (N := some 49) (ba 9 19) ?_
       refine tk_15c (i := 5) (N := some 50) (ba 9 51) hHeld ?_
       refine one_ (i := 2) (N := some 47) (ba 9 55) rfl rfl (one_of HT_.out qg3m) qomw (fun K hK => ?_)
       refine goes_ Tryd.func43 qg3m rfl #[.int .i64 0] qlo1 rfl rfl qraq ?_
       with_reducible refine (udp_word.calls k 0 t435 _ A12.out).mono ?_
       rintro e w25 ⟨rfl, hb⟩
       refine ⟨_, rfl, ?_⟩
       replace BK430 := Aside0.mk (blk_below (g := gb430) (o := .cells #[.int .i64 a2_0, .int .i64 a2_1, .bool true, .string a2_3] 31 (0, 0)) qja1 hb)
       replace HB := Aside0.mk (below_step qq6l hb)
       (try clear hb)
       (try clear hb2)
       (try clear hk)
       (try clear hi)
       refine hK.out _ _ qxo9 (fun hHeld => ?_)
       clear hK K
       refine norm_ (a' := ?_) ?_ ?_
       rotate_left
       ·exact z31_3
       refine pu_c3d (i := 3) (N := some 48) (ba 9 63) ?_
       refine pu_c3d (i := 6) (N := some 51) (ba 9 127) ?_
       refine pu_c3d (i := 7) (N := some 6) (ba 9 255) ?_
       refine pu_c3d (i := 8) (N := some 7) (ba 9 511) ?_
       refine done_ (done_of HT_.out qg3m) ?_
       try go_wp2
       go_ret2
       exact ⟨qxu5, qq6l⟩
      ·rw [if_neg c14] at H
       exact absurd H q6hr
     ·rw [if_neg c13] at H
      exact absurd H q6hr
    ·replace c11 := Bool.eq_false_iff.mpr c11
     subst c11
     rw [if_neg (show ¬ (false = true) by decide)] at H
     replace H := Option.bind_eq_some_iff.mp H
     obtain ⟨t436, A260, H⟩ := H
     try dsimp only at H
     have A26 := Aside0.mk A260
     clear A260
     obtain ⟨y437, hy437⟩ : ∃ y_ : List ByteArray, y_ = (([t436, (t432 ++ t433) ++ t434, a2_3] : List ByteArray)) := ⟨_, rfl⟩
     replace H : ((csum_Of.f k y437).bind fun t440 => (if t440 = 0 then ((udp_word.f k 65535).bind fun t441 => (if ((t432 ++ t433) ++ t434).size + t441.size ≤ 9223372036854775807 then (if (((t432 ++ t433) ++ t434) ++ t441).size + a2_3.size ≤ 9223372036854775807 then (some ((((t432 ++ t433) ++ t434) ++ t441) ++ a2_3, 0)) else (none)) else (none))) else ((udp_word.f k t440).bind fun t442 => (if ((t432 ++ t433) ++ t434).size + t442.size ≤ 9223372036854775807 then (if (((t432 ++ t433) ++ t434) ++ t442).size + a2_3.size ≤ 9223372036854775807 then (some ((((t432 ++ t433) ++ t434) ++ t442) ++ a2_3, 0)) else (none)) else (none))))) = some (r1, r2) := by first | (rw [hy437]; with_reducible exact H) | (have H2_ := (Option.bind_some _ _).symm.trans H; rw [hy437]; with_reducible exact H2_) | (have H2_ := (Option.bind_some _ _).symm.trans H; with_reducible exact H2_) | with_reducible exact H | (rw [hy437]; exact H) | exact H
     have Ny437 := Aside0.mk hy437
     clear hy437
     replace H := Option.bind_eq_some_iff.mp H
     obtain ⟨t440, A270, H⟩ := H
     try dsimp only at H
     have A27 := Aside0.mk A270
     clear A270
     by_cases c28 : t440 = 0
     ·rw [if_pos c28] at H
      have c28b0 : (t440 == 0) = true := beq_iff_eq.mpr c28
      have c28b1 : (t440 != 0) = false := bne_eq_false_iff_eq.mpr c28
      clear c28
      replace H := Option.bind_eq_some_iff.mp H
      obtain ⟨t441, A290, H⟩ := H
      try dsimp only at H
      have A29 := Aside0.mk A290
      clear A290
      by_cases c30 : ((t432 ++ t433) ++ t434).size + t441.size ≤ 9223372036854775807
      ·rw [if_pos c30] at H
       have c30b0 := eq_true c30
       have c30b1 : decide (((t432 ++ t433) ++ t434).size + t441.size ≤ 9223372036854775807) = true := decide_eq_true c30
       have c30z := c30
       simp only [ByteArray.size_append] at c30z
       have c30z1 := eq_true c30z
       have c30z2 := eq_false (Nat.not_lt.2 c30z)
       try have c30b2 : (9223372036854775807 < ((t432 ++ t433) ++ t434).size + t441.size) = False := eq_false (Nat.not_lt.2 c30)
       by_cases c31 : (((t432 ++ t433) ++ t434) ++ t441).size + a2_3.size ≤ 9223372036854775807
       ·rw [if_pos c31] at H
        have c31b0 := eq_true c31
        have c31b1 : decide ((((t432 ++ t433) ++ t434) ++ t441).size + a2_3.size ≤ 9223372036854775807) = true := decide_eq_true c31
        have c31z := c31
        simp only [ByteArray.size_append] at c31z
        have c31z1 := eq_true c31z
        have c31z2 := eq_false (Nat.not_lt.2 c31z)
        try have c31b2 : (9223372036854775807 < (((t432 ++ t433) ++ t434) ++ t441).size + a2_3.size) = False := eq_false (Nat.not_lt.2 c31)
        simp only [Option.some.injEq, Prod.mk.injEq] at H
        obtain ⟨rfl, rfl⟩ := H
        go_enter Tryd.func23, Tryd.ntmps23
        try go_wp2_with (first | ((with_reducible refine gate_dst (N := 5) rfl ?_); refine box_event qgcr (N := 5) qgcr (cs := #[.int .i64 a2_0, .int .i64 a2_1, .bool false, .string a2_3]) (t := 31) qlto ?_; intro gb430 hg w32 hbox hb; have BK430 := Aside0.mk (hbox); have GE430 := Aside0.mk ((qisx : w.heap.size ≤ gb430)); replace HB := Aside0.mk (below_step qpag hb); clear hb hbox hg; obtain ⟨hcz33_0, hcz33_1, hcz33_2, hcz33_3⟩ := cells4 BK430.out; obtain ⟨hfz33_0, hfz33_1, hfz33_2, hfz33_3⟩ := frozen4 BK430.out) | ((with_reducible refine gate_callee (f := 42) rfl ?_); refine goesL_ (some 13) rfl rfl Tryd.func42 qg3m rfl #[.agg #[.int .i64 a2_0, .int .i64 a2_1, .bool false, .string a2_3]] rfl qraq ?_; (with_reducible refine (udp_Check.calls a2_0 a2_1 false a2_3 t431 _ A4.out).mono ?_); rintro e w34 ⟨rfl, hb⟩; refine ⟨_, rfl, ?_⟩; replace BK430 := Aside0.mk (blk_below (g := gb430) qja1 hb); replace HB := Aside0.mk (below_step qq6l hb); (try clear hb); (try clear hb2); (try clear hk); (try clear hi); obtain ⟨hcz35_0, hcz35_1, hcz35_2, hcz35_3⟩ := cells4 BK430.out; obtain ⟨hfz35_0, hfz35_1, hfz35_2, hfz35_3⟩ := frozen4 BK430.out))
        replace BK430 := Aside0.mk (blk_drew BK430.out)
        replace HB := Aside0.mk (below_drew1 HB.out)
        refine start_ (n := 11) (S := fun w' => w'.cell? ⟨gb430, 0, none⟩ = some (.int .i64 a2_0) ∧ w'.cell? ⟨gb430, 1, none⟩ = some (.int .i64 a2_1) ∧ w'.cell? ⟨gb430, 2, none⟩ = some (.bool false) ∧ w'.cell? ⟨gb430, 3, none⟩ = some (.string a2_3)) (ds := []) (ba 11 0) qg3m rfl rfl ⟨(blk_cell BK430.out 0).trans rfl, (blk_cell BK430.out 1).trans rfl, (blk_cell BK430.out 2).trans rfl, (blk_cell BK430.out 3).trans rfl⟩ (fun hHeld => ?_); refine with_tabW udp_Build.tab5 udp_Build.bits5 (fun HT_ HW_ => ?_)
        generalize w34.drew = w36 at BK430 HB hHeld ⊢
        refine pu_c3d (i := 0) (N := some 21) (ba 11 1) ?_
        refine pu_c3d (i := 3) (N := some 24) (ba 11 9) ?_
        refine pu_c3d (i := 7) (N := some 28) (ba 11 137) ?_
        refine tk_15c (i := 1) (N := some 22) (ba 11 139) hHeld ?_
        refine tk_15c (i := 4) (N := some 25) (ba 11 155) hHeld ?_
        refine one_ (i := 2) (N := some 23) (ba 11 159) rfl rfl (one_of HT_.out qg3m) qomw (fun K hK => ?_)
        refine goes_ Tryd.func43 qg3m rfl #[.int .i64 a2_0] qlo1 rfl rfl qraq ?_
        with_reducible refine (udp_word.calls k a2_0 t432 _ A6.out).mono ?_
        rintro e w37 ⟨rfl, hb⟩
        refine ⟨_, rfl, ?_⟩
        replace BK430 := Aside0.mk (blk_below (g := gb430) (o := .cells #[.int .i64 a2_0, .int .i64 a2_1, .bool false, .string a2_3] 31 (0, 0)) qja1 hb)
        replace HB := Aside0.mk (below_step qq6l hb)
        (try clear hb)
        (try clear hb2)
        (try clear hk)
        (try clear hi)
        refine hK.out _ _ qxo9 (fun hHeld => ?_)
        clear hK K
        refine norm_ (a' := ?_) ?_ ?_
        rotate_left
        ·exact z31_0
        refine one_ (i := 5) (N := some 26) (ba 11 191) rfl rfl (one_of HT_.out qg3m) qomw (fun K hK => ?_)
        refine goes_ Tryd.func43 qg3m rfl #[.int .i64 a2_1] qlo1 rfl rfl qraq ?_
        with_reducible refine (udp_word.calls k a2_1 t433 _ A7.out).mono ?_
        rintro e w38 ⟨rfl, hb⟩
        refine ⟨_, rfl, ?_⟩
        replace BK430 := Aside0.mk (blk_below (g := gb430) (o := .cells #[.int .i64 a2_0, .int .i64 a2_1, .bool false, .string a2_3] 31 (0, 0)) qja1 hb)
        replace HB := Aside0.mk (below_step qq6l hb)
        (try clear hb)
        (try clear hb2)
        (try clear hk)
        (try clear hi)
        refine hK.out _ _ qxo9 (fun hHeld => ?_)
        clear hK K
        refine norm_ (a' := ?_) ?_ ?_
        rotate_left
        ·exact z31_1
        refine pu_c3d (i := 6) (N := some 27) (ba 11 255) ?_
        refine one_ (i := 8) (N := some 29) (ba 11 511) rfl rfl (one_of HT_.out qg3m) qomw (fun K hK => ?_)
        refine goes_ Tryd.func43 qg3m rfl #[.int .i64 (wrap64 (8 + (a2_3.size : Int)))] qlo1 rfl rfl qraq ?_
        with_reducible refine (udp_word.calls k (wrap64 (8 + (a2_3.size : Int))) t434 _ A9.out).mono ?_
        rintro e w39 ⟨rfl, hb⟩
        refine ⟨_, rfl, ?_⟩
        replace BK430 := Aside0.mk (blk_below (g := gb430) (o := .cells #[.int .i64 a2_0, .int .i64 a2_1, .bool false, .string a2_3] 31 (0, 0)) qja1 hb)
        replace HB := Aside0.mk (below_step qq6l hb)
        (try clear hb)
        (try clear hb2)
        (try clear hk)
        (try clear hi)
        refine hK.out _ _ qxo9 (fun hHeld => ?_)
        clear hK K
        refine norm_ (a' := ?_) ?_ ?_
        rotate_left
        ·exact z31_2
        refine pu_c3d (i := 9) (N := some 30) (ba 11 1023) ?_
        refine pu_c3d (i := 10) (N := some 10) (ba 11 2047) ?_
        refine done_ (done_of HT_.out qg3m) ?_
        obtain ⟨hcz40_0, hcz40_1, hcz40_2, hcz40_3⟩ := cells4 BK430.out
        obtain ⟨hfz40_0, hfz40_1, hfz40_2, hfz40_3⟩ := frozen4 BK430.out
        try go_wp2
        replace BK430 := Aside0.mk (blk_drew BK430.out)
        replace HB := Aside0.mk (below_drew1 HB.out)
        refine start_ (n := 10) (S := fun w' => w'.cell? ⟨gb430, 0, none⟩ = some (.int .i64 a2_0) ∧ w'.cell? ⟨gb430, 1, none⟩ = some (.int .i64 a2_1) ∧ w'.cell? ⟨gb430, 2, none⟩ = some (.bool false) ∧ w'.cell? ⟨gb430, 3, none⟩ = some (.string a2_3)) (ds := []) (ba 10 0) qg3m rfl rfl ⟨(blk_cell BK430.out 0).trans rfl, (blk_cell BK430.out 1).trans rfl, (blk_cell BK430.out 2).trans rfl, (blk_cell BK430.out 3).trans rfl⟩ (fun hHeld => ?_); refine with_tabW udp_Build.tab8 udp_Build.bits8 (fun HT_ HW_ => ?_)
        generalize w39.drew = w41 at BK430 HB hHeld ⊢
        refine pu_c3d (i := 0) (N := some 34) (ba 10 1) ?_
        refine pu_c3d (i := 1) (N := some 35) (ba 10 3) ?_
        refine pu_c3d (i := 2) (N := some 36) (ba 10 7) ?_
        refine pu_c3d (i := 4) (N := some 38) (ba 10 23) ?_
        refine pu_c3d (i := 5) (N := some 39) (ba 10 55) ?_
        refine tk_15c (i := 6) (N := some 40) (ba 10 119) hHeld ?_
        refine one_ (i := 3) (N := some 37) (ba 10 127) rfl rfl (one_of HT_.out qg3m) qomw (fun K hK => ?_)
        refine goes_ Tryd.func45 qg3m rfl #[.int .u32 a0, .int .u32 a1, .int .i64 17, .int .i64 (wrap64 (8 + (a2_3.size : Int)))] qlo1 rfl rfl qraq ?_
        with_reducible refine (csum_Head.calls k a0 a1 17 (wrap64 (8 + (a2_3.size : Int))) t436 _ A26.out).mono ?_
        rintro e w42 ⟨rfl, hb⟩
        refine ⟨_, rfl, ?_⟩
        replace BK430 := Aside0.mk (blk_below (g := gb430) (o := .cells #[.int .i64 a2_0, .int .i64 a2_1, .bool false, .string a2_3] 31 (0, 0)) qja1 hb)
        replace HB := Aside0.mk (below_step qq6l hb)
        (try clear hb)
        (try clear hb2)
        (try clear hk)
        (try clear hi)
        refine hK.out _ _ qxo9 (fun hHeld => ?_)
        clear hK K
        refine norm_ (a' := ?_) ?_ ?_
        rotate_left
        ·exact z31_4
        refine one_ (i := 7) (N := some 41) (ba 10 255) rfl rfl (one_of HT_.out qg3m) qomw (fun K hK => ?_)
        refine Kd.R_lit_step Kd.string _ 9 ?hg (N := 41) ?hd (xs := ([t436, (t432 ++ t433) ++ t434, a2_3] : List ByteArray)) (inner := [.string t436, .string ((t432 ++ t433) ++ t434), .string a2_3]) (ok := fun _ => True) (okp := fun _ => True) ?hr ?hp (fun _ hk => hk) trivial (Below.refl _ _) (Nat.le_refl _) q6hr ?_; (case hd => rfl); (case hg => rfl); (case hr => first | (go_simp; done) | (go_simp; rfl)); (case hp => exact (Reps.one (show Kd.M Kd.string _ _ _ t436 [.string t436] from rfl) (Reps.one (show Kd.M Kd.string _ _ _ ((t432 ++ t433) ++ t434) [.string ((t432 ++ t433) ++ t434)] from rfl) (Reps.one (show Kd.M Kd.string _ _ _ a2_3 [.string a2_3] from rfl) (Reps.none _ _)))))
        intro v438 w43 ho44 hb hg_ hnew_
        clear hg_ hnew_
        (first | rw [← Ny437.out] at ho44 | (simp only [Int.reduceToNat] at ho44; rw [← Ny437.out] at ho44))
        have HO439 := Aside0.mk (Kd.R_lower ho44 (below_size qq6l))
        replace BK430 := Aside0.mk (blk_below (g := gb430) (o := .cells #[.int .i64 a2_0, .int .i64 a2_1, .bool false, .string a2_3] 31 (0, 0)) qja1 hb)
        replace HB := Aside0.mk (below_step qq6l hb)
        clear hb ho44
        obtain ⟨Ao45, co45, eo45⟩ := Kd.R_slice HO439.out
        (first | subst eo45 | (injection eo45 with f1_ f2_ f3_; have f4_ := f1_.symm; have f5_ := f3_.symm; clear f1_ f2_ f3_; subst f4_; subst f5_))
        refine hK.out _ _ qxo9 (fun hHeld => ?_)
        clear hK K
        refine norm_ (a' := ?_) ?_ ?_
        rotate_left
        ·exact z31_5
        refine one_ (i := 8) (N := some 42) (ba 10 511) rfl rfl (one_of HT_.out qg3m) qomw (fun K hK => ?_)
        refine goes_ Tryd.func44 qg3m rfl #[.slice Ao45 y437.length co45] qlo1 rfl rfl qraq ?_
        with_reducible refine (csum_Of.calls k _ _ y437 t440 _ ?side1 ?side2 A27.out).mono ?_
        (case side1 => repeat (first | exact (Kd.R_reads' HO439.out).2.2 | (with_reducible refine Kd.C_alloc ?_ _) | (with_reducible refine Kd.C_drewN ?_ _) | (with_reducible refine Kd.C_drew ?_)))
        (case side2 => exact (Kd.R_reads' HO439.out).2.1)
        rintro e w46 ⟨rfl, hb⟩
        refine ⟨_, rfl, ?_⟩
        replace HO439 := Aside0.mk (Kd.R_below qex1 hb)
        replace BK430 := Aside0.mk (blk_below (g := gb430) (o := .cells #[.int .i64 a2_0, .int .i64 a2_1, .bool false, .string a2_3] 31 (0, 0)) qja1 hb)
        replace HB := Aside0.mk (below_step qq6l hb)
        (try clear hb)
        (try clear hb2)
        (try clear hk)
        (try clear hi)
        refine hK.out _ _ qxo9 (fun hHeld => ?_)
        clear hK K
        refine norm_ (a' := ?_) ?_ ?_
        rotate_left
        ·exact z31_6
        refine pu_c3d (i := 9) (N := some 11) (ba 10 1023) ?_
        refine done_ (done_of HT_.out qg3m) ?_
        try go_wp2
        replace HO439 := Aside0.mk (Kd.R_drew HO439.out)
        replace BK430 := Aside0.mk (blk_drew BK430.out)
        replace HB := Aside0.mk (below_drew1 HB.out)
        refine start_ (n := 9) (S := fun w' => w'.cell? ⟨gb430, 0, none⟩ = some (.int .i64 a2_0) ∧ w'.cell? ⟨gb430, 1, none⟩ = some (.int .i64 a2_1) ∧ w'.cell? ⟨gb430, 2, none⟩ = some (.bool false) ∧ w'.cell? ⟨gb430, 3, none⟩ = some (.string a2_3)) (ds := []) (ba 9 0) qg3m rfl rfl ⟨(blk_cell BK430.out 0).trans rfl, (blk_cell BK430.out 1).trans rfl, (blk_cell BK430.out 2).trans rfl, (blk_cell BK430.out 3).trans rfl⟩ (fun hHeld => ?_); refine with_tabW udp_Build.tab11 udp_Build.bits11 (fun HT_ HW_ => ?_)
        generalize w46.drew = w47 at HO439 BK430 HB hHeld ⊢
        refine pu_c3d (i := 0) (N := some 45) (ba 9 1) ?_
        refine pu_c3d (i := 1) (N := some 46) (ba 9 3) ?_
        refine pu_c3d (i := 4) (N := some 49) (ba 9 19) ?_
        refine tk_15c (i := 5) (N := some 50) (ba 9 51) hHeld ?_
        refine one_ (i := 2) (N := some 47) (ba 9 55) rfl rfl (one_of HT_.out qg3m) qomw (fun K hK => ?_)
        refine goes_ Tryd.func43 qg3m rfl #[.int .i64 65535] qlo1 rfl rfl qraq ?_
        with_reducible refine (udp_word.calls k 65535 t441 _ A29.out).mono ?_
        rintro e w48 ⟨rfl, hb⟩
        refine ⟨_, rfl, ?_⟩
        replace HO439 := Aside0.mk (Kd.R_below qex1 hb)
        replace BK430 := Aside0.mk (blk_below (g := gb430) (o := .cells #[.int .i64 a2_0, .int .i64 a2_1, .bool false, .string a2_3] 31 (0, 0)) qja1 hb)
        replace HB := Aside0.mk (below_step qq6l hb)
        (try clear hb)
        (try clear hb2)
        (try clear hk)
        (try clear hi)
        refine hK.out _ _ qxo9 (fun hHeld => ?_)
        clear hK K
        refine norm_ (a' := ?_) ?_ ?_
        rotate_left
        ·exact z31_3
        refine pu_c3d (i := 3) (N := some 48) (ba 9 63) ?_
        refine pu_c3d (i := 6) (N := some 51) (ba 9 127) ?_
        refine pu_c3d (i := 7) (N := some 6) (ba 9 255) ?_
        refine pu_c3d (i := 8) (N := some 7) (ba 9 511) ?_
        refine done_ (done_of HT_.out qg3m) ?_
        try go_wp2
        go_ret2
        exact ⟨qxu5, qq6l⟩
       ·rw [if_neg c31] at H
        exact absurd H q6hr
      ·rw [if_neg c30] at H
       exact absurd H q6hr
     ·rw [if_neg c28] at H
      have c28b0 : (t440 == 0) = false := beq_eq_false_iff_ne.mpr c28
      have c28b1 : (t440 != 0) = true := bne_iff_ne.mpr c28
      replace H := Option.bind_eq_some_iff.mp H
      obtain ⟨t442, A490, H⟩ := H
      try dsimp only at H
      have A49 := Aside0.mk A490
      clear A490
      by_cases c50 : ((t432 ++ t433) ++ t434).size + t442.size ≤ 9223372036854775807
      ·rw [if_pos c50] at H
       have c50b0 := eq_true c50
       have c50b1 : decide (((t432 ++ t433) ++ t434).size + t442.size ≤ 9223372036854775807) = true := decide_eq_true c50
       have c50z := c50
       simp only [ByteArray.size_append] at c50z
       have c50z1 := eq_true c50z
       have c50z2 := eq_false (Nat.not_lt.2 c50z)
       try have c50b2 : (9223372036854775807 < ((t432 ++ t433) ++ t434).size + t442.size) = False := eq_false (Nat.not_lt.2 c50)
       by_cases c51 : (((t432 ++ t433) ++ t434) ++ t442).size + a2_3.size ≤ 9223372036854775807
       ·rw [if_pos c51] at H
        have c51b0 := eq_true c51
        have c51b1 : decide ((((t432 ++ t433) ++ t434) ++ t442).size + a2_3.size ≤ 9223372036854775807) = true := decide_eq_true c51
        have c51z := c51
        simp only [ByteArray.size_append] at c51z
        have c51z1 := eq_true c51z
        have c51z2 := eq_false (Nat.not_lt.2 c51z)
        try have c51b2 : (9223372036854775807 < (((t432 ++ t433) ++ t434) ++ t442).size + a2_3.size) = False := eq_false (Nat.not_lt.2 c51)
        simp only [Option.some.injEq, Prod.mk.injEq] at H
        obtain ⟨rfl, rfl⟩ := H
        go_enter Tryd.func23, Tryd.ntmps23
        try go_wp2_with (first | ((with_reducible refine gate_dst (N := 5) rfl ?_); refine box_event qgcr (N := 5) qgcr (cs := #[.int .i64 a2_0, .int .i64 a2_1, .bool false, .string a2_3]) (t := 31) qlto ?_; intro gb430 hg w52 hbox hb; have BK430 := Aside0.mk (hbox); have GE430 := Aside0.mk ((qisx : w.heap.size ≤ gb430)); replace HB := Aside0.mk (below_step qpag hb); clear hb hbox hg; obtain ⟨hcz53_0, hcz53_1, hcz53_2, hcz53_3⟩ := cells4 BK430.out; obtain ⟨hfz53_0, hfz53_1, hfz53_2, hfz53_3⟩ := frozen4 BK430.out) | ((with_reducible refine gate_callee (f := 42) rfl ?_); refine goesL_ (some 13) rfl rfl Tryd.func42 qg3m rfl #[.agg #[.int .i64 a2_0, .int .i64 a2_1, .bool false, .string a2_3]] rfl qraq ?_; (with_reducible refine (udp_Check.calls a2_0 a2_1 false a2_3 t431 _ A4.out).mono ?_); rintro e w54 ⟨rfl, hb⟩; refine ⟨_, rfl, ?_⟩; replace BK430 := Aside0.mk (blk_below (g := gb430) qja1 hb); replace HB := Aside0.mk (below_step qq6l hb); (try clear hb); (try clear hb2); (try clear hk); (try clear hi); obtain ⟨hcz55_0, hcz55_1, hcz55_2, hcz55_3⟩ := cells4 BK430.out; obtain ⟨hfz55_0, hfz55_1, hfz55_2, hfz55_3⟩ := frozen4 BK430.out))
        replace BK430 := Aside0.mk (blk_drew BK430.out)
        replace HB := Aside0.mk (below_drew1 HB.out)
        refine start_ (n := 11) (S := fun w' => w'.cell? ⟨gb430, 0, none⟩ = some (.int .i64 a2_0) ∧ w'.cell? ⟨gb430, 1, none⟩ = some (.int .i64 a2_1) ∧ w'.cell? ⟨gb430, 2, none⟩ = some (.bool false) ∧ w'.cell? ⟨gb430, 3, none⟩ = some (.string a2_3)) (ds := []) (ba 11 0) qg3m rfl rfl ⟨(blk_cell BK430.out 0).trans rfl, (blk_cell BK430.out 1).trans rfl, (blk_cell BK430.out 2).trans rfl, (blk_cell BK430.out 3).trans rfl⟩ (fun hHeld => ?_); refine with_tabW udp_Build.tab5 udp_Build.bits5 (fun HT_ HW_ => ?_)
        generalize w54.drew = w56 at BK430 HB hHeld ⊢
        refine pu_c3d (i := 0) (N := some 21) (ba 11 1) ?_
        refine pu_c3d (i := 3) (N := some 24) (ba 11 9) ?_
        refine pu_c3d (i := 7) (N := some 28) (ba 11 137) ?_
        refine tk_15c (i := 1) (N := some 22) (ba 11 139) hHeld ?_
        refine tk_15c (i := 4) (N := some 25) (ba 11 155) hHeld ?_
        refine one_ (i := 2) (N := some 23) (ba 11 159) rfl rfl (one_of HT_.out qg3m) qomw (fun K hK => ?_)
        refine goes_ Tryd.func43 qg3m rfl #[.int .i64 a2_0] qlo1 rfl rfl qraq ?_
        with_reducible refine (udp_word.calls k a2_0 t432 _ A6.out).mono ?_
        rintro e w57 ⟨rfl, hb⟩
        refine ⟨_, rfl, ?_⟩
        replace BK430 := Aside0.mk (blk_below (g := gb430) (o := .cells #[.int .i64 a2_0, .int .i64 a2_1, .bool false, .string a2_3] 31 (0, 0)) qja1 hb)
        replace HB := Aside0.mk (below_step qq6l hb)
        (try clear hb)
        (try clear hb2)
        (try clear hk)
        (try clear hi)
        refine hK.out _ _ qxo9 (fun hHeld => ?_)
        clear hK K
        refine norm_ (a' := ?_) ?_ ?_
        rotate_left
        ·exact z31_0
        refine one_ (i := 5) (N := some 26) (ba 11 191) rfl rfl (one_of HT_.out qg3m) qomw (fun K hK => ?_)
        refine goes_ Tryd.func43 qg3m rfl #[.int .i64 a2_1] qlo1 rfl rfl qraq ?_
        with_reducible refine (udp_word.calls k a2_1 t433 _ A7.out).mono ?_
        rintro e w58 ⟨rfl, hb⟩
        refine ⟨_, rfl, ?_⟩
        replace BK430 := Aside0.mk (blk_below (g := gb430) (o := .cells #[.int .i64 a2_0, .int .i64 a2_1, .bool false, .string a2_3] 31 (0, 0)) qja1 hb)
        replace HB := Aside0.mk (below_step qq6l hb)
        (try clear hb)
        (try clear hb2)
        (try clear hk)
        (try clear hi)
        refine hK.out _ _ qxo9 (fun hHeld => ?_)
        clear hK K
        refine norm_ (a' := ?_) ?_ ?_
        rotate_left
        ·exact z31_1
        refine pu_c3d (i := 6) (N := some 27) (ba 11 255) ?_
        refine one_ (i := 8) (N := some 29) (ba 11 511) rfl rfl (one_of HT_.out qg3m) qomw (fun K hK => ?_)
        refine goes_ Tryd.func43 qg3m rfl #[.int .i64 (wrap64 (8 + (a2_3.size : Int)))] qlo1 rfl rfl qraq ?_
        with_reducible refine (udp_word.calls k (wrap64 (8 + (a2_3.size : Int))) t434 _ A9.out).mono ?_
        rintro e w59 ⟨rfl, hb⟩
        refine ⟨_, rfl, ?_⟩
        replace BK430 := Aside0.mk (blk_below (g := gb430) (o := .cells #[.int .i64 a2_0, .int .i64 a2_1, .bool false, .string a2_3] 31 (0, 0)) qja1 hb)
        replace HB := Aside0.mk (below_step qq6l hb)
        (try clear hb)
        (try clear hb2)
        (try clear hk)
        (try clear hi)
        refine hK.out _ _ qxo9 (fun hHeld => ?_)
        clear hK K
        refine norm_ (a' := ?_) ?_ ?_
        rotate_left
        ·exact z31_2
        refine pu_c3d (i := 9) (N := some 30) (ba 11 1023) ?_
        refine pu_c3d (i := 10) (N := some 10) (ba 11 2047) ?_
        refine done_ (done_of HT_.out qg3m) ?_
        obtain ⟨hcz60_0, hcz60_1, hcz60_2, hcz60_3⟩ := cells4 BK430.out
        obtain ⟨hfz60_0, hfz60_1, hfz60_2, hfz60_3⟩ := frozen4 BK430.out
        try go_wp2
        replace BK430 := Aside0.mk (blk_drew BK430.out)
        replace HB := Aside0.mk (below_drew1 HB.out)
        refine start_ (n := 10) (S := fun w' => w'.cell? ⟨gb430, 0, none⟩ = some (.int .i64 a2_0) ∧ w'.cell? ⟨gb430, 1, none⟩ = some (.int .i64 a2_1) ∧ w'.cell? ⟨gb430, 2, none⟩ = some (.bool false) ∧ w'.cell? ⟨gb430, 3, none⟩ = some (.string a2_3)) (ds := []) (ba 10 0) qg3m rfl rfl ⟨(blk_cell BK430.out 0).trans rfl, (blk_cell BK430.out 1).trans rfl, (blk_cell BK430.out 2).trans rfl, (blk_cell BK430.out 3).trans rfl⟩ (fun hHeld => ?_); refine with_tabW udp_Build.tab8 udp_Build.bits8 (fun HT_ HW_ => ?_)
        generalize w59.drew = w61 at BK430 HB hHeld ⊢
        refine pu_c3d (i := 0) (N := some 34) (ba 10 1) ?_
        refine pu_c3d (i := 1) (N := some 35) (ba 10 3) ?_
        refine pu_c3d (i := 2) (N := some 36) (ba 10 7) ?_
        refine pu_c3d (i := 4) (N := some 38) (ba 10 23) ?_
        refine pu_c3d (i := 5) (N := some 39) (ba 10 55) ?_
        refine tk_15c (i := 6) (N := some 40) (ba 10 119) hHeld ?_
        refine one_ (i := 3) (N := some 37) (ba 10 127) rfl rfl (one_of HT_.out qg3m) qomw (fun K hK => ?_)
        refine goes_ Tryd.func45 qg3m rfl #[.int .u32 a0, .int .u32 a1, .int .i64 17, .int .i64 (wrap64 (8 + (a2_3.size : Int)))] qlo1 rfl rfl qraq ?_
        with_reducible refine (csum_Head.calls k a0 a1 17 (wrap64 (8 + (a2_3.size : Int))) t436 _ A26.out).mono ?_
        rintro e w62 ⟨rfl, hb⟩
        refine ⟨_, rfl, ?_⟩
        replace BK430 := Aside0.mk (blk_below (g := gb430) (o := .cells #[.int .i64 a2_0, .int .i64 a2_1, .bool false, .string a2_3] 31 (0, 0)) qja1 hb)
        replace HB := Aside0.mk (below_step qq6l hb)
        (try clear hb)
        (try clear hb2)
        (try clear hk)
        (try clear hi)
        refine hK.out _ _ qxo9 (fun hHeld => ?_)
        clear hK K
        refine norm_ (a' := ?_) ?_ ?_
        rotate_left
        ·exact z31_4
        refine one_ (i := 7) (N := some 41) (ba 10 255) rfl rfl (one_of HT_.out qg3m) qomw (fun K hK => ?_)
        refine Kd.R_lit_step Kd.string _ 9 ?hg (N := 41) ?hd (xs := ([t436, (t432 ++ t433) ++ t434, a2_3] : List ByteArray)) (inner := [.string t436, .string ((t432 ++ t433) ++ t434), .string a2_3]) (ok := fun _ => True) (okp := fun _ => True) ?hr ?hp (fun _ hk => hk) trivial (Below.refl _ _) (Nat.le_refl _) q6hr ?_; (case hd => rfl); (case hg => rfl); (case hr => first | (go_simp; done) | (go_simp; rfl)); (case hp => exact (Reps.one (show Kd.M Kd.string _ _ _ t436 [.string t436] from rfl) (Reps.one (show Kd.M Kd.string _ _ _ ((t432 ++ t433) ++ t434) [.string ((t432 ++ t433) ++ t434)] from rfl) (Reps.one (show Kd.M Kd.string _ _ _ a2_3 [.string a2_3] from rfl) (Reps.none _ _)))))
        intro v438 w63 ho64 hb hg_ hnew_
        clear hg_ hnew_
        (first | rw [← Ny437.out] at ho64 | (simp only [Int.reduceToNat] at ho64; rw [← Ny437.out] at ho64))
        have HO439 := Aside0.mk (Kd.R_lower ho64 (below_size qq6l))
        replace BK430 := Aside0.mk (blk_below (g := gb430) (o := .cells #[.int .i64 a2_0, .int .i64 a2_1, .bool false, .string a2_3] 31 (0, 0)) qja1 hb)
        replace HB := Aside0.mk (below_step qq6l hb)
        clear hb ho64
        obtain ⟨Ao65, co65, eo65⟩ := Kd.R_slice HO439.out
        (first | subst eo65 | (injection eo65 with f1_ f2_ f3_; have f4_ := f1_.symm; have f5_ := f3_.symm; clear f1_ f2_ f3_; subst f4_; subst f5_))
        refine hK.out _ _ qxo9 (fun hHeld => ?_)
        clear hK K
        refine norm_ (a' := ?_) ?_ ?_
        rotate_left
        ·exact z31_5
        refine one_ (i := 8) (N := some 42) (ba 10 511) rfl rfl (one_of HT_.out qg3m) qomw (fun K hK => ?_)
        refine goes_ Tryd.func44 qg3m rfl #[.slice Ao65 y437.length co65] qlo1 rfl rfl qraq ?_
        with_reducible refine (csum_Of.calls k _ _ y437 t440 _ ?side1 ?side2 A27.out).mono ?_
        (case side1 => repeat (first | exact (Kd.R_reads' HO439.out).2.2 | (with_reducible refine Kd.C_alloc ?_ _) | (with_reducible refine Kd.C_drewN ?_ _) | (with_reducible refine Kd.C_drew ?_)))
        (case side2 => exact (Kd.R_reads' HO439.out).2.1)
        rintro e w66 ⟨rfl, hb⟩
        refine ⟨_, rfl, ?_⟩
        replace HO439 := Aside0.mk (Kd.R_below qex1 hb)
        replace BK430 := Aside0.mk (blk_below (g := gb430) (o := .cells #[.int .i64 a2_0, .int .i64 a2_1, .bool false, .string a2_3] 31 (0, 0)) qja1 hb)
        replace HB := Aside0.mk (below_step qq6l hb)
        (try clear hb)
        (try clear hb2)
        (try clear hk)
        (try clear hi)
        refine hK.out _ _ qxo9 (fun hHeld => ?_)
        clear hK K
        refine norm_ (a' := ?_) ?_ ?_
        rotate_left
        ·exact z31_6
        refine pu_c3d (i := 9) (N := some 11) (ba 10 1023) ?_
        refine done_ (done_of HT_.out qg3m) ?_
        try go_wp2
        replace HO439 := Aside0.mk (Kd.R_drew HO439.out)
        replace BK430 := Aside0.mk (blk_drew BK430.out)
        replace HB := Aside0.mk (below_drew1 HB.out)
        refine start_ (n := 9) (S := fun w' => w'.cell? ⟨gb430, 0, none⟩ = some (.int .i64 a2_0) ∧ w'.cell? ⟨gb430, 1, none⟩ = some (.int .i64 a2_1) ∧ w'.cell? ⟨gb430, 2, none⟩ = some (.bool false) ∧ w'.cell? ⟨gb430, 3, none⟩ = some (.string a2_3)) (ds := []) (ba 9 0) qg3m rfl rfl ⟨(blk_cell BK430.out 0).trans rfl, (blk_cell BK430.out 1).trans rfl, (blk_cell BK430.out 2).trans rfl, (blk_cell BK430.out 3).trans rfl⟩ (fun hHeld => ?_); refine with_tabW udp_Build.tab11 udp_Build.bits11 (fun HT_ HW_ => ?_)
        generalize w66.drew = w67 at HO439 BK430 HB hHeld ⊢
        refine pu_c3d (i := 0) (N := some 45) (ba 9 1) ?_
        refine pu_c3d (i := 1) (N := some 46) (ba 9 3) ?_
        refine pu_c3d (i := 4) (N := some 49) (ba 9 19) ?_
        refine tk_15c (i := 5) (N := some 50) (ba 9 51) hHeld ?_
        refine one_ (i := 2) (N := some 47) (ba 9 55) rfl rfl (one_of HT_.out qg3m) qomw (fun K hK => ?_)
        refine goes_ Tryd.func43 qg3m rfl #[.int .i64 t440] qlo1 rfl rfl qraq ?_
        with_reducible refine (udp_word.calls k t440 t442 _ A49.out).mono ?_
        rintro e w68 ⟨rfl, hb⟩
        refine ⟨_, rfl, ?_⟩
        replace HO439 := Aside0.mk (Kd.R_below qex1 hb)
        replace BK430 := Aside0.mk (blk_below (g := gb430) (o := .cells #[.int .i64 a2_0, .int .i64 a2_1, .bool false, .string a2_3] 31 (0, 0)) qja1 hb)
        replace HB := Aside0.mk (below_step qq6l hb)
        (try clear hb)
        (try clear hb2)
        (try clear hk)
        (try clear hi)
        refine hK.out _ _ qxo9 (fun hHeld => ?_)
        clear hK K
        refine norm_ (a' := ?_) ?_ ?_
        rotate_left
        ·exact z31_3
        refine pu_c3d (i := 3) (N := some 48) (ba 9 63) ?_
        refine pu_c3d (i := 6) (N := some 51) (ba 9 127) ?_
        refine pu_c3d (i := 7) (N := some 6) (ba 9 255) ?_
        refine pu_c3d (i := 8) (N := some 7) (ba 9 511) ?_
        refine done_ (done_of HT_.out qg3m) ?_
        try go_wp2
        go_ret2
        exact ⟨qxu5, qq6l⟩
       ·rw [if_neg c51] at H
        exact absurd H q6hr
      ·rw [if_neg c50] at H
       exact absurd H q6hr
   ·rw [if_neg c10] at H
    exact absurd H q6hr
  ·rw [if_neg c8] at H
   exact absurd H q6hr
 ·rw [if_neg c5] at H
  have c5b0 : (t431 == 0) = false := beq_eq_false_iff_ne.mpr c5
  have c5b1 : (t431 != 0) = true := bne_iff_ne.mpr c5
  simp only [Option.some.injEq, Prod.mk.injEq] at H
  obtain ⟨rfl, rfl⟩ := H
  go_enter Tryd.func23, Tryd.ntmps23
  go_wp2_with (first | ((with_reducible refine gate_dst (N := 5) rfl ?_); refine box_event qgcr (N := 5) qgcr (cs := #[.int .i64 a2_0, .int .i64 a2_1, .bool a2_2, .string a2_3]) (t := 31) qlto ?_; intro gb430 hg w69 hbox hb; have BK430 := Aside0.mk (hbox); have GE430 := Aside0.mk ((qisx : w.heap.size ≤ gb430)); replace HB := Aside0.mk (below_step qpag hb); clear hb hbox hg; obtain ⟨hcz70_0, hcz70_1, hcz70_2, hcz70_3⟩ := cells4 BK430.out; obtain ⟨hfz70_0, hfz70_1, hfz70_2, hfz70_3⟩ := frozen4 BK430.out) | ((with_reducible refine gate_callee (f := 42) rfl ?_); refine goesL_ (some 13) rfl rfl Tryd.func42 qg3m rfl #[.agg #[.int .i64 a2_0, .int .i64 a2_1, .bool a2_2, .string a2_3]] rfl qraq ?_; (with_reducible refine (udp_Check.calls a2_0 a2_1 a2_2 a2_3 t431 _ A4.out).mono ?_); rintro e w71 ⟨rfl, hb⟩; refine ⟨_, rfl, ?_⟩; replace BK430 := Aside0.mk (blk_below (g := gb430) qja1 hb); replace HB := Aside0.mk (below_step qq6l hb); obtain ⟨hcy1_430_0, hcy1_430_1, hcy1_430_2, hcy1_430_3⟩ := cells4 BK430.out; (try clear hb); (try clear hb2); (try clear hk); (try clear hi)))
  go_ret2
  exact ⟨qxu5, qq6l⟩
end Go.Proofs.YtbkgaplldfilnaaDoor.P
