-- slim
-- Written by wip/hprint.py (this session's program) through the kit's print program; hand contracts are marked 'by hand'.
import Derived.Test.YtbkgaplldfilnaaDoorAbb
import Derived.Test.YtbkgaplldfilnaaDoorRow
import Derived.Test.YtbkgaplldfilnaaDoorPx0
import Derived.Test.YtbkgaplldfilnaaDoorPx24
import Derived.Test.YtbkgaplldfilnaaDoorPx35
import Derived.Test.YtbkgaplldfilnaaDoorPx40
namespace Go.Proofs.YtbkgaplldfilnaaDoor.P
open Go.RowKit Go.Proofs.YtbkgaplldfilnaaDoorW.PrintWords Go.Proofs.YtbkgaplldfilnaaDoorW.PrintLast Go.Proofs.YtbkgaplldfilnaaDoorW.PrintMore
attribute [local go_sem] max2_int min2_int max_two min_two max_three min_three max_four min_four   -- for this text's walks alone
set_option linter.unusedVariables false
set_option linter.unusedSimpArgs false

theorem qhqj {p : Prop} (h : p := by (with_reducible repeat (first | refine blk_drewN ?_ _ | refine blk_drew ?_ | refine blk_alloc ?_ _)); exact BKz5.out) : p := h
theorem qza6 {p : Prop} (h : p := by (with_reducible repeat (first | refine blk_drewN ?_ _ | refine blk_drew ?_ | refine blk_alloc ?_ _)); exact BK580.out) : p := h
theorem qe40 {p : Prop} (h : p := by exact ⟨(blk_cell BKz5.out 0).trans rfl, (blk_cell BKz5.out 1).trans rfl, (blk_cell BKz5.out 2).trans rfl, (blk_cell BKz5.out 3).trans rfl⟩) : p := h
theorem q86v {p : Prop} (h : p := by exact ⟨(blk_cell BK580.out 0).trans rfl, (blk_cell BK580.out 1).trans rfl, (blk_cell BK580.out 2).trans rfl, (blk_cell BK580.out 3).trans rfl⟩) : p := h
theorem qs62 {p : Prop} (h : p := by repeat (first | (with_reducible first | exact HB.out | apply below_alloc | apply pw_below_drewN | apply below_drew1 | refine below_set ?_ GE580.out) | exact HB.out)) : p := h
/-! ### gangwayref07_Build: function 25 -/
def gangwayref07_Build.f (k : Nat) (a0 : Int) (a1 : Int) (a2_0 : Int) (a2_1 : Int) (a2_2 : Bool) (a2_3 : ByteArray) : Option (ByteArray × Int) := (gangwayref07_Check.f a2_0 a2_1 a2_2 a2_3).bind fun t581 => (if t581 = 0 then ((gangwayref01_Bytes.f k (IntKind.u64.wrap (a2_0)) 2).bind fun t582 => ((gangwayref01_Bytes.f k (IntKind.u64.wrap (a2_1)) 2).bind fun t583 => (if t582.size + t583.size ≤ 9223372036854775807 then ((gangwayref01_Bytes.f k (IntKind.u64.wrap (wrap64 ((a2_3.size : Int) + 8))) 2).bind fun t584 => (if (t582 ++ t583).size + t584.size ≤ 9223372036854775807 then ((gangwayref03_Head.f k a0 a1 17 (wrap64 ((a2_3.size : Int) + 8))).bind fun t585 => (if t585.size + ((t582 ++ t583) ++ t584).size ≤ 9223372036854775807 then (if (t585 ++ ((t582 ++ t583) ++ t584)).size + 2 ≤ 9223372036854775807 then (if ((t585 ++ ((t582 ++ t583) ++ t584)) ++ (⟨#[0, 0]⟩ : ByteArray)).size + a2_3.size ≤ 9223372036854775807 then ((gangwayref03_Of.f k (((t585 ++ ((t582 ++ t583) ++ t584)) ++ (⟨#[0, 0]⟩ : ByteArray)) ++ a2_3)).bind fun t586 => (if t586 = 0 then (if a2_2 = true then ((gangwayref01_Bytes.f k 0 2).bind fun t587 => (if ((t582 ++ t583) ++ t584).size + t587.size ≤ 9223372036854775807 then (if (((t582 ++ t583) ++ t584) ++ t587).size + a2_3.size ≤ 9223372036854775807 then (some ((((t582 ++ t583) ++ t584) ++ t587) ++ a2_3, 0)) else (none)) else (none))) else ((gangwayref01_Bytes.f k 65535 2).bind fun t588 => (if ((t582 ++ t583) ++ t584).size + t588.size ≤ 9223372036854775807 then (if (((t582 ++ t583) ++ t584) ++ t588).size + a2_3.size ≤ 9223372036854775807 then (some ((((t582 ++ t583) ++ t584) ++ t588) ++ a2_3, 0)) else (none)) else (none)))) else (if a2_2 = true then ((gangwayref01_Bytes.f k 0 2).bind fun t589 => (if ((t582 ++ t583) ++ t584).size + t589.size ≤ 9223372036854775807 then (if (((t582 ++ t583) ++ t584) ++ t589).size + a2_3.size ≤ 9223372036854775807 then (some ((((t582 ++ t583) ++ t584) ++ t589) ++ a2_3, 0)) else (none)) else (none))) else ((gangwayref01_Bytes.f k (IntKind.u64.wrap (t586)) 2).bind fun t590 => (if ((t582 ++ t583) ++ t584).size + t590.size ≤ 9223372036854775807 then (if (((t582 ++ t583) ++ t584) ++ t590).size + a2_3.size ≤ 9223372036854775807 then (some ((((t582 ++ t583) ++ t584) ++ t590) ++ a2_3, 0)) else (none)) else (none)))))) else (none)) else (none)) else (none))) else (none))) else (none)))) else (some ((⟨#[]⟩ : ByteArray), t581)))
theorem gangwayref07_Build.mono : ∀ a0 a1 a2 a3 a4 a5 k, LeO (gangwayref07_Build.f k a0 a1 a2 a3 a4 a5) (gangwayref07_Build.f (k + 1) a0 a1 a2 a3 a4 a5) := by
 intro a0 a1 a2 a3 a4 a5 k
 unfold gangwayref07_Build.f
 repeat' first
   | (with_reducible exact gangwayref01_Bytes.mono _ _ _)
   | (with_reducible exact gangwayref03_Head.mono _ _ _ _ _)
   | (with_reducible exact gangwayref03_Of.mono _ _)
   | (with_reducible exact LeO.refl _)
   | (with_reducible exact LeO.none _)
   | (with_reducible refine LeO.ite ?_ ?_)
   | (with_reducible refine LeO.bind ?_ (fun _ => ?_))
   | exact gangwayref01_Bytes.mono _ _ _
   | exact gangwayref03_Head.mono _ _ _ _ _
   | exact gangwayref03_Of.mono _ _
   | exact LeO.none _
   | refine LeO.ite ?_ ?_
   | refine LeO.bind ?_ (fun _ => ?_)
def gangwayref07_Build.T5 : Bool × List (List Nat × List Nat) := (true, [([], []), ([0], [0]), ([1], [1]), ([2], [2]), ([], []), ([4], [4]), ([5], [5]), ([6, 3], [6]), ([3, 7], [3, 7]), ([], []), ([9], [9]), ([10, 7], [10]), ([8, 11], [8, 11]), ([12, 11, 0, 1, 2, 3, 4, 5, 6, 7, 8, 9, 10, 11, 12], [12])])
def gangwayref07_Build.B5 : List Nat := [0, 1, 3, 7, 0, 16, 48, 127, 255, 0, 512, 1791, 4095, 8191]
theorem gangwayref07_Build.tab5 : rtab .any (opsOf Tryd.f25 5) = gangwayref07_Build.T5 := by kernel_rfl
theorem gangwayref07_Build.bits5 : waitsOk gangwayref07_Build.T5.2 gangwayref07_Build.B5 = true := by kernel_rfl
def gangwayref07_Build.T6 : Bool × List (List Nat × List Nat) := (true, [([], []), ([], []), ([], []), ([0, 1, 2], [0, 1, 2]), ([], []), ([3, 4], [3, 4]), ([5], [5]), ([], []), ([7], [7]), ([6, 8], [6, 8]), ([9, 3], [9]), ([10, 10, 0, 1, 2, 3, 4, 5, 6, 7, 8, 9, 10], [10])])
def gangwayref07_Build.B6 : List Nat := [0, 0, 0, 7, 0, 31, 63, 0, 128, 511, 1023, 2047]
theorem gangwayref07_Build.tab6 : rtab .any (opsOf Tryd.f25 6) = gangwayref07_Build.T6 := by kernel_rfl
theorem gangwayref07_Build.bits6 : waitsOk gangwayref07_Build.T6.2 gangwayref07_Build.B6 = true := by kernel_rfl
def gangwayref07_Build.T11 : Bool × List (List Nat × List Nat) := (true, [([], []), ([], []), ([1], [1]), ([2], [2]), ([0, 3], [0, 3]), ([], []), ([5], [5]), ([4, 6], [4, 6]), ([7, 3, 0, 1, 2, 3, 4, 5, 6, 7], [7]), ([8, 0, 1, 2, 3, 4, 5, 6, 7, 8], [])])
def gangwayref07_Build.B11 : List Nat := [0, 0, 2, 6, 15, 0, 32, 127, 255, 511]
theorem gangwayref07_Build.tab11 : rtab .any (opsOf Tryd.f25 11) = gangwayref07_Build.T11 := by kernel_rfl
theorem gangwayref07_Build.bits11 : waitsOk gangwayref07_Build.T11.2 gangwayref07_Build.B11 = true := by kernel_rfl
theorem z39_1 {p : Prop} (h : p := by
 show Act.put _ (some 24) _ = _
 simp only [Act.put, List.setIfInBounds_toArray, List.set_cons_zero, List.set_cons_succ, i64_w, i32_w]
 rfl) : p := h
theorem z39_2 {p : Prop} (h : p := by
 show Act.put _ (some 28) _ = _
 simp only [Act.put, List.setIfInBounds_toArray, List.set_cons_zero, List.set_cons_succ, i64_w, i32_w]
 rfl) : p := h
theorem z39_3 {p : Prop} (h : p := by
 show Act.put _ (some 32) _ = _
 simp only [Act.put, List.setIfInBounds_toArray, List.set_cons_zero, List.set_cons_succ, i64_w, i32_w]
 rfl) : p := h
theorem z39_4 {p : Prop} (h : p := by
 show Act.put _ (some 37) _ = _
 simp only [Act.put, List.setIfInBounds_toArray, List.set_cons_zero, List.set_cons_succ, i64_w, i32_w]
 rfl) : p := h
theorem z39_5 {p : Prop} (h : p := by
 show Act.put _ (some 44) _ = _
 simp only [Act.put, List.setIfInBounds_toArray, List.set_cons_zero, List.set_cons_succ, i64_w, i32_w]
 rfl) : p := h
theorem z39_6 {p : Prop} (h : p := by
 show Act.put _ (some 52) _ = _
 simp only [Act.put, List.setIfInBounds_toArray, List.set_cons_zero, List.set_cons_succ, i64_w, i32_w]
 rfl) : p := h
set_option maxRecDepth 100000 in
theorem z39_0 {p : Prop} (h : p := by
 rw [if_pos rfl] at H
 replace H := Option.bind_eq_some_iff.mp H
 obtain ⟨tz0, Az1, H⟩ := H
 try dsimp only at H
 have Az2 := Aside0.mk Az1
 clear Az1
 by_cases cz3 : ((t582 ++ t583) ++ t584).size + tz0.size ≤ 9223372036854775807
 ·rw [if_pos cz3] at H
  have cz3b0 := eq_true cz3
  have cz3b1 : decide (((t582 ++ t583) ++ t584).size + tz0.size ≤ 9223372036854775807) = true := decide_eq_true cz3
  have cz3z := cz3
  simp only [ByteArray.size_append] at cz3z
  have cz3z1 := eq_true cz3z
  have cz3z2 := eq_false (Nat.not_lt.2 cz3z)
  try (have cz3l := cz3z; simp only [show (⟨#[0, 0]⟩ : ByteArray).size = 2 from rfl, Nat.reduceAdd] at cz3l; have cz3l1 := eq_true cz3l; have cz3l2 := eq_false (Nat.not_lt.2 cz3l))
  try have cz3b2 : (9223372036854775807 < ((t582 ++ t583) ++ t584).size + tz0.size) = False := eq_false (Nat.not_lt.2 cz3)
  by_cases cz4 : (((t582 ++ t583) ++ t584) ++ tz0).size + a2_3.size ≤ 9223372036854775807
  ·rw [if_pos cz4] at H
   have cz4b0 := eq_true cz4
   have cz4b1 : decide ((((t582 ++ t583) ++ t584) ++ tz0).size + a2_3.size ≤ 9223372036854775807) = true := decide_eq_true cz4
   have cz4z := cz4
   simp only [ByteArray.size_append] at cz4z
   have cz4z1 := eq_true cz4z
   have cz4z2 := eq_false (Nat.not_lt.2 cz4z)
   try (have cz4l := cz4z; simp only [show (⟨#[0, 0]⟩ : ByteArray).size = 2 from rfl, Nat.reduceAdd] at cz4l; have cz4l1 := eq_true cz4l; have cz4l2 := eq_false (Nat.not_lt.2 cz4l))
   try have cz4b2 : (9223372036854775807 < (((t582 ++ t583) ++ t584) ++ tz0).size + a2_3.size) = False := eq_false (Nat.not_lt.2 cz4)
   simp only [Option.some.injEq, Prod.mk.injEq] at H
   obtain ⟨rfl, rfl⟩ := H
   go_enter Tryd.func25, Tryd.ntmps25
   try go_wp2_with (first | ((with_reducible refine gate_dst (N := 5) rfl ?_); refine box_event qgcr (N := 5) qgcr (cs := #[.int .i64 a2_0, .int .i64 a2_1, .bool true, .string a2_3]) (t := 31) qlto ?_; intro gbz5 hg wz6 hbox hb; have BKz5 := Aside0.mk (hbox); have GEz5 := Aside0.mk ((qisx : w.heap.size ≤ gbz5)); replace HB := Aside0.mk (below_step qpag hb); clear hb hbox hg; obtain ⟨hczz7_0, hczz7_1, hczz7_2, hczz7_3⟩ := cells4 BKz5.out; obtain ⟨hfzz7_0, hfzz7_1, hfzz7_2, hfzz7_3⟩ := frozen4 BKz5.out) | ((with_reducible refine gate_callee (f := 50) rfl ?_); refine goesL_ (some 13) rfl rfl Tryd.func50 qg3m rfl #[.agg #[.int .i64 a2_0, .int .i64 a2_1, .bool true, .string a2_3]] rfl qraq ?_; (with_reducible refine (gangwayref07_Check.calls a2_0 a2_1 true a2_3 t581 _ A4.out).mono ?_); rintro e wz8 ⟨rfl, hb⟩; refine ⟨_, rfl, ?_⟩; replace BKz5 := Aside0.mk (blk_below (g := gbz5) qhqj hb); replace HB := Aside0.mk (below_step qtky hb); (try clear hb); (try clear hb2); (try clear hk); (try clear hi); obtain ⟨hczz9_0, hczz9_1, hczz9_2, hczz9_3⟩ := cells4 BKz5.out; obtain ⟨hfzz9_0, hfzz9_1, hfzz9_2, hfzz9_3⟩ := frozen4 BKz5.out))
   replace BKz5 := Aside0.mk (blk_drew BKz5.out)
   replace HB := Aside0.mk (below_drew1 HB.out)
   refine start_ (n := 14) (S := fun w' => w'.cell? ⟨gbz5, 0, none⟩ = some (.int .i64 a2_0) ∧ w'.cell? ⟨gbz5, 1, none⟩ = some (.int .i64 a2_1) ∧ w'.cell? ⟨gbz5, 2, none⟩ = some (.bool true) ∧ w'.cell? ⟨gbz5, 3, none⟩ = some (.string a2_3)) (ds := []) (ba 14 0) qg3m rfl rfl ⟨(blk_cell BKz5.out 0).trans rfl, (blk_cell BKz5.out 1).trans rfl, (blk_cell BKz5.out 2).trans rfl, (blk_cell BKz5.out 3).trans rfl⟩ (fun hHeld => ?_); refine with_tabW gangwayref07_Build.tab5 gangwayref07_Build.bits5 (fun HT_ HW_ => ?_)
   generalize wz8.drew = wz10 at BKz5 HB hHeld ⊢
   refine pu_c3d (i := 0) (N := some 21) (ba 14 1) ?_
   refine pu_c3d (i := 4) (N := some 25) (ba 14 17) ?_
   refine pu_c3d (i := 9) (N := some 30) (ba 14 529) ?_
   refine pu_c3d (i := 10) (N := some 31) (ba 14 1553) ?_
   refine tk_15c (i := 1) (N := some 22) (ba 14 1555) hHeld ?_
   refine pu_c3d (i := 2) (N := some 23) (ba 14 1559) ?_
   refine tk_15c (i := 5) (N := some 26) (ba 14 1591) hHeld ?_
   refine pu_c3d (i := 6) (N := some 27) (ba 14 1655) ?_
   refine one_ (i := 3) (N := some 24) (ba 14 1663) rfl rfl (one_of HT_.out qg3m) qomw (fun K hK => ?_)
   refine goes_ Tryd.func51 qg3m rfl #[.int .u64 (IntKind.u64.wrap (a2_0)), .int .i64 2] qlo1 rfl rfl qraq ?_
   with_reducible refine (gangwayref01_Bytes.calls k (IntKind.u64.wrap (a2_0)) 2 t582 _ A6.out).mono ?_
   rintro e wz11 ⟨rfl, hb⟩
   refine ⟨_, rfl, ?_⟩
   replace BKz5 := Aside0.mk (blk_below (g := gbz5) (o := .cells #[.int .i64 a2_0, .int .i64 a2_1, .bool true, .string a2_3] 31 (0, 0)) qhqj hb)
   replace HB := Aside0.mk (below_step qtky hb)
   (try clear hb)
   (try clear hb2)
   (try clear hk)
   (try clear hi)
   refine hK.out _ _ qe40 (fun hHeld => ?_)
   clear hK K
   refine norm_ (a' := ?_) ?_ ?_
   rotate_left
   ·exact z39_1
   refine one_ (i := 7) (N := some 28) (ba 14 1791) rfl rfl (one_of HT_.out qg3m) qomw (fun K hK => ?_)
   refine goes_ Tryd.func51 qg3m rfl #[.int .u64 (IntKind.u64.wrap (a2_1)), .int .i64 2] qlo1 rfl rfl qraq ?_
   with_reducible refine (gangwayref01_Bytes.calls k (IntKind.u64.wrap (a2_1)) 2 t583 _ A7.out).mono ?_
   rintro e wz12 ⟨rfl, hb⟩
   refine ⟨_, rfl, ?_⟩
   replace BKz5 := Aside0.mk (blk_below (g := gbz5) (o := .cells #[.int .i64 a2_0, .int .i64 a2_1, .bool true, .string a2_3] 31 (0, 0)) qhqj hb)
   replace HB := Aside0.mk (below_step qtky hb)
   (try clear hb)
   (try clear hb2)
   (try clear hk)
   (try clear hi)
   refine hK.out _ _ qe40 (fun hHeld => ?_)
   clear hK K
   refine norm_ (a' := ?_) ?_ ?_
   rotate_left
   ·exact z39_2
   refine pu_c3d (i := 8) (N := some 29) (ba 14 2047) ?_
   refine one_ (i := 11) (N := some 32) (ba 14 4095) rfl rfl (one_of HT_.out qg3m) qomw (fun K hK => ?_)
   refine goes_ Tryd.func51 qg3m rfl #[.int .u64 (IntKind.u64.wrap (wrap64 ((a2_3.size : Int) + 8))), .int .i64 2] qlo1 rfl rfl qraq ?_
   with_reducible refine (gangwayref01_Bytes.calls k (IntKind.u64.wrap (wrap64 ((a2_3.size : Int) + 8))) 2 t584 _ A9.out).mono ?_
   rintro e wz13 ⟨rfl, hb⟩
   refine ⟨_, rfl, ?_⟩
   replace BKz5 := Aside0.mk (blk_below (g := gbz5) (o := .cells #[.int .i64 a2_0, .int .i64 a2_1, .bool true, .string a2_3] 31 (0, 0)) qhqj hb)
   replace HB := Aside0.mk (below_step qtky hb)
   (try clear hb)
   (try clear hb2)
   (try clear hk)
   (try clear hi)
   refine hK.out _ _ qe40 (fun hHeld => ?_)
   clear hK K
   refine norm_ (a' := ?_) ?_ ?_
   rotate_left
   ·exact z39_3
   refine pu_c3d (i := 12) (N := some 33) (ba 14 8191) ?_
   refine pu_c3d (i := 13) (N := some 10) (ba 14 16383) ?_
   refine done_ (done_of HT_.out qg3m) ?_
   try go_wp2
   replace BKz5 := Aside0.mk (blk_drew BKz5.out)
   replace HB := Aside0.mk (below_drew1 HB.out)
   refine start_ (n := 12) (S := fun w' => w'.cell? ⟨gbz5, 0, none⟩ = some (.int .i64 a2_0) ∧ w'.cell? ⟨gbz5, 1, none⟩ = some (.int .i64 a2_1) ∧ w'.cell? ⟨gbz5, 2, none⟩ = some (.bool true) ∧ w'.cell? ⟨gbz5, 3, none⟩ = some (.string a2_3)) (ds := []) (ba 12 0) qg3m rfl rfl ⟨(blk_cell BKz5.out 0).trans rfl, (blk_cell BKz5.out 1).trans rfl, (blk_cell BKz5.out 2).trans rfl, (blk_cell BKz5.out 3).trans rfl⟩ (fun hHeld => ?_); refine with_tabW gangwayref07_Build.tab6 gangwayref07_Build.bits6 (fun HT_ HW_ => ?_)
   generalize wz13.drew = wz14 at BKz5 HB hHeld ⊢
   refine pu_c3d (i := 0) (N := some 34) (ba 12 1) ?_
   refine pu_c3d (i := 1) (N := some 35) (ba 12 3) ?_
   refine pu_c3d (i := 2) (N := some 36) (ba 12 7) ?_
   refine pu_c3d (i := 4) (N := some 38) (ba 12 23) ?_
   refine pu_c3d (i := 7) (N := some 41) (ba 12 151) ?_
   refine tk_15c (i := 8) (N := some 42) (ba 12 407) hHeld ?_
   refine one_ (i := 3) (N := some 37) (ba 12 415) rfl rfl (one_of HT_.out qg3m) qomw (fun K hK => ?_)
   refine goes_ Tryd.func41 qg3m rfl #[.int .u32 a0, .int .u32 a1, .int .i64 17, .int .i64 (wrap64 ((a2_3.size : Int) + 8))] qlo1 rfl rfl qraq ?_
   with_reducible refine (gangwayref03_Head.calls k a0 a1 17 (wrap64 ((a2_3.size : Int) + 8)) t585 _ A11.out).mono ?_
   rintro e wz15 ⟨rfl, hb⟩
   refine ⟨_, rfl, ?_⟩
   replace BKz5 := Aside0.mk (blk_below (g := gbz5) (o := .cells #[.int .i64 a2_0, .int .i64 a2_1, .bool true, .string a2_3] 31 (0, 0)) qhqj hb)
   replace HB := Aside0.mk (below_step qtky hb)
   (try clear hb)
   (try clear hb2)
   (try clear hk)
   (try clear hi)
   refine hK.out _ _ qe40 (fun hHeld => ?_)
   clear hK K
   refine norm_ (a' := ?_) ?_ ?_
   rotate_left
   ·exact z39_4
   refine pu_c3d (i := 5) (N := some 39) (ba 12 447) ?_
   refine pu_c3d (i := 6) (N := some 40) (ba 12 511) ?_
   refine pu_c3d (i := 9) (N := some 43) (ba 12 1023) ?_
   refine one_ (i := 10) (N := some 44) (ba 12 2047) rfl rfl (one_of HT_.out qg3m) qomw (fun K hK => ?_)
   refine goes_ Tryd.func38 qg3m rfl #[.string (((t585 ++ ((t582 ++ t583) ++ t584)) ++ (⟨#[0, 0]⟩ : ByteArray)) ++ a2_3)] qlo1 rfl rfl qraq ?_
   with_reducible refine (gangwayref03_Of.calls k (((t585 ++ ((t582 ++ t583) ++ t584)) ++ (⟨#[0, 0]⟩ : ByteArray)) ++ a2_3) t586 _ A15.out).mono ?_
   rintro e w' ⟨rfl, ⟨nd, rfl⟩⟩
   refine ⟨_, rfl, ?_⟩
   refine hK.out _ _ qe40 (fun hHeld => ?_)
   clear hK K
   refine norm_ (a' := ?_) ?_ ?_
   rotate_left
   ·exact z39_5
   refine pu_c3d (i := 11) (N := some 11) (ba 12 4095) ?_
   refine done_ (done_of HT_.out qg3m) ?_
   obtain ⟨hczz16_0, hczz16_1, hczz16_2, hczz16_3⟩ := cells4 BKz5.out
   obtain ⟨hfzz16_0, hfzz16_1, hfzz16_2, hfzz16_3⟩ := frozen4 BKz5.out
   try go_wp2
   (try (rw [drewN_self wz15]; generalize hq_ : World.drewN wz15 _ = wz15; have nz17_ : Aside0 (wz15.heap[gbz5]? = some (.cells #[.int .i64 a2_0, .int .i64 a2_1, .bool true, .string a2_3] 31 (0, 0))) := ⟨(by rw [← hq_]; exact qhqj)⟩; have nz18_ : Aside0 (Below w.heap.size w wz15) := ⟨(by rw [← hq_]; exact qtky)⟩; clear BKz5 HB hq_; have BKz5 := nz17_; have HB := nz18_; clear nz17_ nz18_))
   replace BKz5 := Aside0.mk (blk_drew BKz5.out)
   replace HB := Aside0.mk (below_drew1 HB.out)
   refine start_ (n := 10) (S := fun w' => w'.cell? ⟨gbz5, 0, none⟩ = some (.int .i64 a2_0) ∧ w'.cell? ⟨gbz5, 1, none⟩ = some (.int .i64 a2_1) ∧ w'.cell? ⟨gbz5, 2, none⟩ = some (.bool true) ∧ w'.cell? ⟨gbz5, 3, none⟩ = some (.string a2_3)) (ds := []) (ba 10 0) qg3m rfl rfl ⟨(blk_cell BKz5.out 0).trans rfl, (blk_cell BKz5.out 1).trans rfl, (blk_cell BKz5.out 2).trans rfl, (blk_cell BKz5.out 3).trans rfl⟩ (fun hHeld => ?_); refine with_tabW gangwayref07_Build.tab11 gangwayref07_Build.bits11 (fun HT_ HW_ => ?_)
   generalize wz15.drew = wz19 at BKz5 HB hHeld ⊢
   refine pu_c3d (i := 0) (N := some 49) (ba 10 1) ?_
   refine pu_c3d (i := 1) (N := some 50) (ba 10 3) ?_
   refine pu_c3d (i := 2) (N := some 51) (ba 10 7) ?_
   refine pu_c3d (i := 5) (N := some 54) (ba 10 39) ?_
   refine tk_15c (i := 6) (N := some 55) (ba 10 103) hHeld ?_
   refine one_ (i := 3) (N := some 52) (ba 10 111) rfl rfl (one_of HT_.out qg3m) qomw (fun K hK => ?_)
   refine goes_ Tryd.func51 qg3m rfl #[.int .u64 0, .int .i64 2] qlo1 rfl rfl qraq ?_
   with_reducible refine (gangwayref01_Bytes.calls k 0 2 tz0 _ Az2.out).mono ?_
   rintro e wz20 ⟨rfl, hb⟩
   refine ⟨_, rfl, ?_⟩
   replace BKz5 := Aside0.mk (blk_below (g := gbz5) (o := .cells #[.int .i64 a2_0, .int .i64 a2_1, .bool true, .string a2_3] 31 (0, 0)) qhqj hb)
   replace HB := Aside0.mk (below_step qtky hb)
   (try clear hb)
   (try clear hb2)
   (try clear hk)
   (try clear hi)
   refine hK.out _ _ qe40 (fun hHeld => ?_)
   clear hK K
   refine norm_ (a' := ?_) ?_ ?_
   rotate_left
   ·exact z39_6
   refine pu_c3d (i := 4) (N := some 53) (ba 10 127) ?_
   refine pu_c3d (i := 7) (N := some 56) (ba 10 255) ?_
   refine pu_c3d (i := 8) (N := some 6) (ba 10 511) ?_
   refine pu_c3d (i := 9) (N := some 7) (ba 10 1023) ?_
   refine done_ (done_of HT_.out qg3m) ?_
   try go_wp2
   go_ret2
   exact ⟨qxu5, qtky⟩
  ·rw [if_neg cz4] at H
   exact absurd H q6hr
 ·rw [if_neg cz3] at H
  exact absurd H q6hr) : p := h
set_option maxHeartbeats 8000000 in
set_option maxRecDepth 100000 in
theorem gangwayref07_Build.calls (k : Nat) (a0 : Int) (a1 : Int) (a2_0 : Int) (a2_1 : Int) (a2_2 : Bool) (a2_3 : ByteArray) (r1 : ByteArray) (r2 : Int) (w : World) (h : gangwayref07_Build.f k a0 a1 a2_0 a2_1 a2_2 a2_3 = some (r1, r2)) :
  Calls Tryd.prog 25 #[.int .u32 a0, .int .u32 a1, .agg #[.int .i64 a2_0, .int .i64 a2_1, .bool a2_2, .string a2_3]] w fun e w' => e = .returned (.tuple #[.string r1, .int .i64 r2]) ∧ Below w.heap.size w w' := by
 have hu31 := Tryd.underlying31
 have HB := Aside0.mk (Below.refl w.heap.size w)
 have H := h
 unfold gangwayref07_Build.f at H
 clear h
 replace H := Option.bind_eq_some_iff.mp H
 obtain ⟨t581, A40, H⟩ := H
 try dsimp only at H
 have A4 := Aside0.mk A40
 clear A40
 by_cases c5 : t581 = 0
 ·rw [if_pos c5] at H
  have c5b0 : (t581 == 0) = true := beq_iff_eq.mpr c5
  have c5b1 : (t581 != 0) = false := bne_eq_false_iff_eq.mpr c5
  clear c5
  replace H := Option.bind_eq_some_iff.mp H
  obtain ⟨t582, A60, H⟩ := H
  try dsimp only at H
  have A6 := Aside0.mk A60
  clear A60
  replace H := Option.bind_eq_some_iff.mp H
  obtain ⟨t583, A70, H⟩ := H
  try dsimp only at H
  have A7 := Aside0.mk A70
  clear A70
  by_cases c8 : t582.size + t583.size ≤ 9223372036854775807
  ·rw [if_pos c8] at H
   have c8b0 := eq_true c8
   have c8b1 : decide (t582.size + t583.size ≤ 9223372036854775807) = true := decide_eq_true c8
   try have c8b2 : (9223372036854775807 < t582.size + t583.size) = False := eq_false (Nat.not_lt.2 c8)
   replace H := Option.bind_eq_some_iff.mp H
   obtain ⟨t584, A90, H⟩ := H
   try dsimp only at H
   have A9 := Aside0.mk A90
   clear A90
   by_cases c10 : (t582 ++ t583).size + t584.size ≤ 9223372036854775807
   ·rw [if_pos c10] at H
    have c10b0 := eq_true c10
    have c10b1 : decide ((t582 ++ t583).size + t584.size ≤ 9223372036854775807) = true := decide_eq_true c10
    have c10z := c10
    simp only [ByteArray.size_append] at c10z
    have c10z1 := eq_true c10z
    have c10z2 := eq_false (Nat.not_lt.2 c10z)
    try (have c10l := c10z; simp only [show (⟨#[0, 0]⟩ : ByteArray).size = 2 from rfl, Nat.reduceAdd] at c10l; have c10l1 := eq_true c10l; have c10l2 := eq_false (Nat.not_lt.2 c10l))
    try have c10b2 : (9223372036854775807 < (t582 ++ t583).size + t584.size) = False := eq_false (Nat.not_lt.2 c10)
    replace H := Option.bind_eq_some_iff.mp H
    obtain ⟨t585, A110, H⟩ := H
    try dsimp only at H
    have A11 := Aside0.mk A110
    clear A110
    by_cases c12 : t585.size + ((t582 ++ t583) ++ t584).size ≤ 9223372036854775807
    ·rw [if_pos c12] at H
     have c12b0 := eq_true c12
     have c12b1 : decide (t585.size + ((t582 ++ t583) ++ t584).size ≤ 9223372036854775807) = true := decide_eq_true c12
     have c12z := c12
     simp only [ByteArray.size_append] at c12z
     have c12z1 := eq_true c12z
     have c12z2 := eq_false (Nat.not_lt.2 c12z)
     try (have c12l := c12z; simp only [show (⟨#[0, 0]⟩ : ByteArray).size = 2 from rfl, Nat.reduceAdd] at c12l; have c12l1 := eq_true c12l; have c12l2 := eq_false (Nat.not_lt.2 c12l))
     try have c12b2 : (9223372036854775807 < t585.size + ((t582 ++ t583) ++ t584).size) = False := eq_false (Nat.not_lt.2 c12)
     by_cases c13 : (t585 ++ ((t582 ++ t583) ++ t584)).size + 2 ≤ 9223372036854775807
     ·rw [if_pos c13] at H
      have c13b0 := eq_true c13
      have c13b1 : decide ((t585 ++ ((t582 ++ t583) ++ t584)).size + 2 ≤ 9223372036854775807) = true := decide_eq_true c13
      have c13z := c13
      simp only [ByteArray.size_append] at c13z
      have c13z1 := eq_true c13z
      have c13z2 := eq_false (Nat.not_lt.2 c13z)
      try (have c13l := c13z; simp only [show (⟨#[0, 0]⟩ : ByteArray).size = 2 from rfl, Nat.reduceAdd] at c13l; have c13l1 := eq_true c13l; have c13l2 := eq_false (Nat.not_lt.2 c13l))
      try have c13b2 : (9223372036854775807 < (t585 ++ ((t582 ++ t583) ++ t584)).size + 2) = False := eq_false (Nat.not_lt.2 c13)
      by_cases c14 : ((t585 ++ ((t582 ++ t583) ++ t584)) ++ (⟨#[0, 0]⟩ : ByteArray)).size + a2_3.size ≤ 9223372036854775807
      ·rw [if_pos c14] at H
       have c14b0 := eq_true c14
       have c14b1 : decide (((t585 ++ ((t582 ++ t583) ++ t584)) ++ (⟨#[0, 0]⟩ : ByteArray)).size + a2_3.size ≤ 9223372036854775807) = true := decide_eq_true c14
       have c14z := c14
       simp only [ByteArray.size_append] at c14z
       have c14z1 := eq_true c14z
       have c14z2 := eq_false (Nat.not_lt.2 c14z)
       try (have c14l := c14z; simp only [show (⟨#[0, 0]⟩ : ByteArray).size = 2 from rfl, Nat.reduceAdd] at c14l; have c14l1 := eq_true c14l; have c14l2 := eq_false (Nat.not_lt.2 c14l))
       try have c14b2 : (9223372036854775807 < ((t585 ++ ((t582 ++ t583) ++ t584)) ++ (⟨#[0, 0]⟩ : ByteArray)).size + a2_3.size) = False := eq_false (Nat.not_lt.2 c14)
       replace H := Option.bind_eq_some_iff.mp H
       obtain ⟨t586, A150, H⟩ := H
       try dsimp only at H
       have A15 := Aside0.mk A150
       clear A150
       by_cases c16 : t586 = 0
       ·rw [if_pos c16] at H
        have c16b0 : (t586 == 0) = true := beq_iff_eq.mpr c16
        have c16b1 : (t586 != 0) = false := bne_eq_false_iff_eq.mpr c16
        clear c16
        by_cases c17 : a2_2 = true
        ·subst c17
         exact z39_0
        ·replace c17 := Bool.eq_false_iff.mpr c17
         subst c17
         rw [if_neg (show ¬ (false = true) by decide)] at H
         replace H := Option.bind_eq_some_iff.mp H
         obtain ⟨t588, A340, H⟩ := H
         try dsimp only at H
         have A34 := Aside0.mk A340
         clear A340
         by_cases c35 : ((t582 ++ t583) ++ t584).size + t588.size ≤ 9223372036854775807
         ·rw [if_pos c35] at H
          have c35b0 := eq_true c35
          have c35b1 : decide (((t582 ++ t583) ++ t584).size + t588.size ≤ 9223372036854775807) = true := decide_eq_true c35
          have c35z := c35
          simp only [ByteArray.size_append] at c35z
          have c35z1 := eq_true c35z
          have c35z2 := eq_false (Nat.not_lt.2 c35z)
          try (have c35l := c35z; simp only [show (⟨#[0, 0]⟩ : ByteArray).size = 2 from rfl, Nat.reduceAdd] at c35l; have c35l1 := eq_true c35l; have c35l2 := eq_false (Nat.not_lt.2 c35l))
          try have c35b2 : (9223372036854775807 < ((t582 ++ t583) ++ t584).size + t588.size) = False := eq_false (Nat.not_lt.2 c35)
          by_cases c36 : (((t582 ++ t583) ++ t584) ++ t588).size + a2_3.size ≤ 9223372036854775807
          ·rw [if_pos c36] at H
           have c36b0 := eq_true c36
           have c36b1 : decide ((((t582 ++ t583) ++ t584) ++ t588).size + a2_3.size ≤ 9223372036854775807) = true := decide_eq_true c36
           have c36z := c36
           simp only [ByteArray.size_append] at c36z
           have c36z1 := eq_true c36z
           have c36z2 := eq_false (Nat.not_lt.2 c36z)
           try (have c36l := c36z; simp only [show (⟨#[0, 0]⟩ : ByteArray).size = 2 from rfl, Nat.reduceAdd] at c36l; have c36l1 := eq_true c36l; have c36l2 := eq_false (Nat.not_lt.2 c36l))
           try have c36b2 : (9223372036854775807 < (((t582 ++ t583) ++ t584) ++ t588).size + a2_3.size) = False := eq_false (Nat.not_lt.2 c36)
           simp only [Option.some.injEq, Prod.mk.injEq] at H
           obtain ⟨rfl, rfl⟩ := H
           go_enter Tryd.func25, Tryd.ntmps25
           try go_wp2_with (first | ((with_reducible refine gate_dst (N := 5) rfl ?_); refine box_event qgcr (N := 5) qgcr (cs := #[.int .i64 a2_0, .int .i64 a2_1, .bool false, .string a2_3]) (t := 31) qlto ?_; intro gb580 hg w37 hbox hb; have BK580 := Aside0.mk (hbox); have GE580 := Aside0.mk ((qisx : w.heap.size ≤ gb580)); replace HB := Aside0.mk (below_step qpag hb); clear hb hbox hg; obtain ⟨hcz38_0, hcz38_1, hcz38_2, hcz38_3⟩ := cells4 BK580.out; obtain ⟨hfz38_0, hfz38_1, hfz38_2, hfz38_3⟩ := frozen4 BK580.out) | ((with_reducible refine gate_callee (f := 50) rfl ?_); refine goesL_ (some 13) rfl rfl Tryd.func50 qg3m rfl #[.agg #[.int .i64 a2_0, .int .i64 a2_1, .bool false, .string a2_3]] rfl qraq ?_; (with_reducible refine (gangwayref07_Check.calls a2_0 a2_1 false a2_3 t581 _ A4.out).mono ?_); rintro e w39 ⟨rfl, hb⟩; refine ⟨_, rfl, ?_⟩; replace BK580 := Aside0.mk (blk_below (g := gb580) qza6 hb); replace HB := Aside0.mk (below_step qs62 hb); (try clear hb); (try clear hb2); (try clear hk); (try clear hi); obtain ⟨hcz40_0, hcz40_1, hcz40_2, hcz40_3⟩ := cells4 BK580.out; obtain ⟨hfz40_0, hfz40_1, hfz40_2, hfz40_3⟩ := frozen4 BK580.out))
           replace BK580 := Aside0.mk (blk_drew BK580.out)
           replace HB := Aside0.mk (below_drew1 HB.out)
           refine start_ (n := 14) (S := fun w' => w'.cell? ⟨gb580, 0, none⟩ = some (.int .i64 a2_0) ∧ w'.cell? ⟨gb580, 1, none⟩ = some (.int .i64 a2_1) ∧ w'.cell? ⟨gb580, 2, none⟩ = some (.bool false) ∧ w'.cell? ⟨gb580, 3, none⟩ = some (.string a2_3)) (ds := []) (ba 14 0) qg3m rfl rfl ⟨(blk_cell BK580.out 0).trans rfl, (blk_cell BK580.out 1).trans rfl, (blk_cell BK580.out 2).trans rfl, (blk_cell BK580.out 3).trans rfl⟩ (fun hHeld => ?_); refine with_tabW gangwayref07_Build.tab5 gangwayref07_Build.bits5 (fun HT_ HW_ => ?_)
           generalize w39.drew = w41 at BK580 HB hHeld ⊢
           refine pu_c3d (i := 0) (N := some 21) (ba 14 1) ?_
           refine pu_c3d (i := 4) (N := some 25) (ba 14 17) ?_
           refine pu_c3d (i := 9) (N := some 30) (ba 14 529) ?_
           refine pu_c3d (i := 10) (N := some 31) (ba 14 1553) ?_
           refine tk_15c (i := 1) (N := some 22) (ba 14 1555) hHeld ?_
           refine pu_c3d (i := 2) (N := some 23) (ba 14 1559) ?_
           refine tk_15c (i := 5) (N := some 26) (ba 14 1591) hHeld ?_
           refine pu_c3d (i := 6) (N := some 27) (ba 14 1655) ?_
           refine one_ (i := 3) (N := some 24) (ba 14 1663) rfl rfl (one_of HT_.out qg3m) qomw (fun K hK => ?_)
           refine goes_ Tryd.func51 qg3m rfl #[.int .u64 (IntKind.u64.wrap (a2_0)), .int .i64 2] qlo1 rfl rfl qraq ?_
           with_reducible refine (gangwayref01_Bytes.calls k (IntKind.u64.wrap (a2_0)) 2 t582 _ A6.out).mono ?_
           rintro e w42 ⟨rfl, hb⟩
           refine ⟨_, rfl, ?_⟩
           replace BK580 := Aside0.mk (blk_below (g := gb580) (o := .cells #[.int .i64 a2_0, .int .i64 a2_1, .bool false, .string a2_3] 31 (0, 0)) qza6 hb)
           replace HB := Aside0.mk (below_step qs62 hb)
           (try clear hb)
           (try clear hb2)
           (try clear hk)
           (try clear hi)
           refine hK.out _ _ q86v (fun hHeld => ?_)
           clear hK K
           refine norm_ (a' := ?_) ?_ ?_
           rotate_left
           ·exact z39_1
           refine one_ (i := 7) (N := some 28) (ba 14 1791) rfl rfl (one_of HT_.out qg3m) qomw (fun K hK => ?_)
           refine goes_ Tryd.func51 qg3m rfl #[.int .u64 (IntKind.u64.wrap (a2_1)), .int .i64 2] qlo1 rfl rfl qraq ?_
           with_reducible refine (gangwayref01_Bytes.calls k (IntKind.u64.wrap (a2_1)) 2 t583 _ A7.out).mono ?_
           rintro e w43 ⟨rfl, hb⟩
           refine ⟨_, rfl, ?_⟩
           replace BK580 := Aside0.mk (blk_below (g := gb580) (o := .cells #[.int .i64 a2_0, .int .i64 a2_1, .bool false, .string a2_3] 31 (0, 0)) qza6 hb)
           replace HB := Aside0.mk (below_step qs62 hb)
           (try clear hb)
           (try clear hb2)
           (try clear hk)
           (try clear hi)
           refine hK.out _ _ q86v (fun hHeld => ?_)
           clear hK K
           refine norm_ (a' := ?_) ?_ ?_
           rotate_left
           ·exact z39_2
           refine pu_c3d (i := 8) (N := some 29) (ba 14 2047) ?_
           refine one_ (i := 11) (N := some 32) (ba 14 4095) rfl rfl (one_of HT_.out qg3m) qomw (fun K hK => ?_)
           refine goes_ Tryd.func51 qg3m rfl #[.int .u64 (IntKind.u64.wrap (wrap64 ((a2_3.size : Int) + 8))), .int .i64 2] qlo1 rfl rfl qraq ?_
           with_reducible refine (gangwayref01_Bytes.calls k (IntKind.u64.wrap (wrap64 ((a2_3.size : Int) + 8))) 2 t584 _ A9.out).mono ?_
           rintro e w44 ⟨rfl, hb⟩
           refine ⟨_, rfl, ?_⟩
           replace BK580 := Aside0.mk (blk_below (g := gb580) (o := .cells #[.int .i64 a2_0, .int .i64 a2_1, .bool false, .string a2_3] 31 (0, 0)) qza6 hb)
           replace HB := Aside0.mk (below_step qs62 hb)
           (try clear hb)
           (try clear hb2)
           (try clear hk)
           (try clear hi)
           refine hK.out _ _ q86v (fun hHeld => ?_)
           clear hK K
           refine norm_ (a' := ?_) ?_ ?_
           rotate_left
           ·exact z39_3
           refine pu_c3d (i := 12) (N := some 33) (ba 14 8191) ?_
           refine pu_c3d (i := 13) (N := some 10) (ba 14 16383) ?_
           refine done_ (done_of HT_.out qg3m) ?_
           try go_wp2
           replace BK580 := Aside0.mk (blk_drew BK580.out)
           replace HB := Aside0.mk (below_drew1 HB.out)
           refine start_ (n := 12) (S := fun w' => w'.cell? ⟨gb580, 0, none⟩ = some (.int .i64 a2_0) ∧ w'.cell? ⟨gb580, 1, none⟩ = some (.int .i64 a2_1) ∧ w'.cell? ⟨gb580, 2, none⟩ = some (.bool false) ∧ w'.cell? ⟨gb580, 3, none⟩ = some (.string a2_3)) (ds := []) (ba 12 0) qg3m rfl rfl ⟨(blk_cell BK580.out 0).trans rfl, (blk_cell BK580.out 1).trans rfl, (blk_cell BK580.out 2).trans rfl, (blk_cell BK580.out 3).trans rfl⟩ (fun hHeld => ?_); refine with_tabW gangwayref07_Build.tab6 gangwayref07_Build.bits6 (fun HT_ HW_ => ?_)
           generalize w44.drew = w45 at BK580 HB hHeld ⊢
           refine pu_c3d (i := 0) (N := some 34) (ba 12 1) ?_
           refine pu_c3d (i := 1) (N := some 35) (ba 12 3) ?_
           refine pu_c3d (i := 2) (N := some 36) (ba 12 7) ?_
           refine pu_c3d (i := 4) (N := some 38) (ba 12 23) ?_
           refine pu_c3d (i := 7) (N := some 41) (ba 12 151) ?_
           refine tk_15c (i := 8) (N := some 42) (ba 12 407) hHeld ?_
           refine one_ (i := 3) (N := some 37) (ba 12 415) rfl rfl (one_of HT_.out qg3m) qomw (fun K hK => ?_)
           refine goes_ Tryd.func41 qg3m rfl #[.int .u32 a0, .int .u32 a1, .int .i64 17, .int .i64 (wrap64 ((a2_3.size : Int) + 8))] qlo1 rfl rfl qraq ?_
           with_reducible refine (gangwayref03_Head.calls k a0 a1 17 (wrap64 ((a2_3.size : Int) + 8)) t585 _ A11.out).mono ?_
           rintro e w46 ⟨rfl, hb⟩
           refine ⟨_, rfl, ?_⟩
           replace BK580 := Aside0.mk (blk_below (g := gb580) (o := .cells #[.int .i64 a2_0, .int .i64 a2_1, .bool false, .string a2_3] 31 (0, 0)) qza6 hb)
           replace HB := Aside0.mk (below_step qs62 hb)
           (try clear hb)
           (try clear hb2)
           (try clear hk)
           (try clear hi)
           refine hK.out _ _ q86v (fun hHeld => ?_)
           clear hK K
           refine norm_ (a' := ?_) ?_ ?_
           rotate_left
           ·exact z39_4
           refine pu_c3d (i := 5) (N := some 39) (ba 12 447) ?_
           refine pu_c3d (i := 6) (N := some 40) (ba 12 511) ?_
           refine pu_c3d (i := 9) (N := some 43) (ba 12 1023) ?_
           refine one_ (i := 10) (N := some 44) (ba 12 2047) rfl rfl (one_of HT_.out qg3m) qomw (fun K hK => ?_)
           refine goes_ Tryd.func38 qg3m rfl #[.string (((t585 ++ ((t582 ++ t583) ++ t584)) ++ (⟨#[0, 0]⟩ : ByteArray)) ++ a2_3)] qlo1 rfl rfl qraq ?_
           with_reducible refine (gangwayref03_Of.calls k (((t585 ++ ((t582 ++ t583) ++ t584)) ++ (⟨#[0, 0]⟩ : ByteArray)) ++ a2_3) t586 _ A15.out).mono ?_
           rintro e w' ⟨rfl, ⟨nd, rfl⟩⟩
           refine ⟨_, rfl, ?_⟩
           refine hK.out _ _ q86v (fun hHeld => ?_)
           clear hK K
           refine norm_ (a' := ?_) ?_ ?_
           rotate_left
           ·exact z39_5
           refine pu_c3d (i := 11) (N := some 11) (ba 12 4095) ?_
           refine done_ (done_of HT_.out qg3m) ?_
           obtain ⟨hcz47_0, hcz47_1, hcz47_2, hcz47_3⟩ := cells4 BK580.out
           obtain ⟨hfz47_0, hfz47_1, hfz47_2, hfz47_3⟩ := frozen4 BK580.out
           try go_wp2
           (try (rw [drewN_self w46]; generalize hq_ : World.drewN w46 _ = w46; have n0_ : Aside0 (w46.heap[gb580]? = some (.cells #[.int .i64 a2_0, .int .i64 a2_1, .bool false, .string a2_3] 31 (0, 0))) := ⟨(by rw [← hq_]; exact qza6)⟩; have n1_ : Aside0 (Below w.heap.size w w46) := ⟨(by rw [← hq_]; exact qs62)⟩; clear BK580 HB hq_; have BK580 := n0_; have HB := n1_; clear n0_ n1_))
           replace BK580 := Aside0.mk (blk_drew BK580.out)
           replace HB := Aside0.mk (below_drew1 HB.out)
           refine start_ (n := 10) (S := fun w' => w'.cell? ⟨gb580, 0, none⟩ = some (.int .i64 a2_0) ∧ w'.cell? ⟨gb580, 1, none⟩ = some (.int .i64 a2_1) ∧ w'.cell? ⟨gb580, 2, none⟩ = some (.bool false) ∧ w'.cell? ⟨gb580, 3, none⟩ = some (.string a2_3)) (ds := []) (ba 10 0) qg3m rfl rfl ⟨(blk_cell BK580.out 0).trans rfl, (blk_cell BK580.out 1).trans rfl, (blk_cell BK580.out 2).trans rfl, (blk_cell BK580.out 3).trans rfl⟩ (fun hHeld => ?_); refine with_tabW gangwayref07_Build.tab11 gangwayref07_Build.bits11 (fun HT_ HW_ => ?_)
           generalize w46.drew = w48 at BK580 HB hHeld ⊢
           refine pu_c3d (i := 0) (N := some 49) (ba 10 1) ?_
           refine pu_c3d (i := 1) (N := some 50) (ba 10 3) ?_
           refine pu_c3d (i := 2) (N := some 51) (ba 10 7) ?_
           refine pu_c3d (i := 5) (N := some 54) (ba 10 39) ?_
           refine tk_15c (i := 6) (N := some 55) (ba 10 103) hHeld ?_
           refine one_ (i := 3) (N := some 52) (ba 10 111) rfl rfl (one_of HT_.out qg3m) qomw (fun K hK => ?_)
           refine goes_ Tryd.func51 qg3m rfl #[.int .u64 65535, .int .i64 2] qlo1 rfl rfl qraq ?_
           with_reducible refine (gangwayref01_Bytes.calls k 65535 2 t588 _ A34.out).mono ?_
           rintro e w49 ⟨rfl, hb⟩
           refine ⟨_, rfl, ?_⟩
           replace BK580 := Aside0.mk (blk_below (g := gb580) (o := .cells #[.int .i64 a2_0, .int .i64 a2_1, .bool false, .string a2_3] 31 (0, 0)) qza6 hb)
           replace HB := Aside0.mk (below_step qs62 hb)
           (try clear hb)
           (try clear hb2)
           (try clear hk)
           (try clear hi)
           refine hK.out _ _ q86v (fun hHeld => ?_)
           clear hK K
           refine norm_ (a' := ?_) ?_ ?_
           rotate_left
           ·exact z39_6
           refine pu_c3d (i := 4) (N := some 53) (ba 10 127) ?_
           refine pu_c3d (i := 7) (N := some 56) (ba 10 255) ?_
           refine pu_c3d (i := 8) (N := some 6) (ba 10 511) ?_
           refine pu_c3d (i := 9) (N := some 7) (ba 10 1023) ?_
           refine done_ (done_of HT_.out qg3m) ?_
           try go_wp2
           go_ret2
           exact ⟨qxu5, qs62⟩
          ·rw [if_neg c36] at H
           exact absurd H q6hr
         ·rw [if_neg c35] at H
          exact absurd H q6hr
       ·rw [if_neg c16] at H
        have c16b0 : (t586 == 0) = false := beq_eq_false_iff_ne.mpr c16
        have c16b1 : (t586 != 0) = true := bne_iff_ne.mpr c16
        by_cases c50 : a2_2 = true
        ·subst c50
         exact z39_0
        ·replace c50 := Bool.eq_false_iff.mpr c50
         subst c50
         rw [if_neg (show ¬ (false = true) by decide)] at H
         replace H := Option.bind_eq_some_iff.mp H
         obtain ⟨t590, A670, H⟩ := H
         try dsimp only at H
         have A67 := Aside0.mk A670
         clear A670
         by_cases c68 : ((t582 ++ t583) ++ t584).size + t590.size ≤ 9223372036854775807
         ·rw [if_pos c68] at H
          have c68b0 := eq_true c68
          have c68b1 : decide (((t582 ++ t583) ++ t584).size + t590.size ≤ 9223372036854775807) = true := decide_eq_true c68
          have c68z := c68
          simp only [ByteArray.size_append] at c68z
          have c68z1 := eq_true c68z
          have c68z2 := eq_false (Nat.not_lt.2 c68z)
          try (have c68l := c68z; simp only [show (⟨#[0, 0]⟩ : ByteArray).size = 2 from rfl, Nat.reduceAdd] at c68l; have c68l1 := eq_true c68l; have c68l2 := eq_false (Nat.not_lt.2 c68l))
          try have c68b2 : (9223372036854775807 < ((t582 ++ t583) ++ t584).size + t590.size) = False := eq_false (Nat.not_lt.2 c68)
          by_cases c69 : (((t582 ++ t583) ++ t584) ++ t590).size + a2_3.size ≤ 9223372036854775807
          ·rw [if_pos c69] at H
           have c69b0 := eq_true c69
           have c69b1 : decide ((((t582 ++ t583) ++ t584) ++ t590).size + a2_3.size ≤ 9223372036854775807) = true := decide_eq_true c69
           have c69z := c69
           simp only [ByteArray.size_append] at c69z
           have c69z1 := eq_true c69z
           have c69z2 := eq_false (Nat.not_lt.2 c69z)
           try (have c69l := c69z; simp only [show (⟨#[0, 0]⟩ : ByteArray).size = 2 from rfl, Nat.reduceAdd] at c69l; have c69l1 := eq_true c69l; have c69l2 := eq_false (Nat.not_lt.2 c69l))
           try have c69b2 : (9223372036854775807 < (((t582 ++ t583) ++ t584) ++ t590).size + a2_3.size) = False := eq_false (Nat.not_lt.2 c69)
           simp only [Option.some.injEq, Prod.mk.injEq] at H
           obtain ⟨rfl, rfl⟩ := H
           go_enter Tryd.func25, Tryd.ntmps25
           try go_wp2_with (first | ((with_reducible refine gate_dst (N := 5) rfl ?_); refine box_event qgcr (N := 5) qgcr (cs := #[.int .i64 a2_0, .int .i64 a2_1, .bool false, .string a2_3]) (t := 31) qlto ?_; intro gb580 hg w70 hbox hb; have BK580 := Aside0.mk (hbox); have GE580 := Aside0.mk ((qisx : w.heap.size ≤ gb580)); replace HB := Aside0.mk (below_step qpag hb); clear hb hbox hg; obtain ⟨hcz71_0, hcz71_1, hcz71_2, hcz71_3⟩ := cells4 BK580.out; obtain ⟨hfz71_0, hfz71_1, hfz71_2, hfz71_3⟩ := frozen4 BK580.out) | ((with_reducible refine gate_callee (f := 50) rfl ?_); refine goesL_ (some 13) rfl rfl Tryd.func50 qg3m rfl #[.agg #[.int .i64 a2_0, .int .i64 a2_1, .bool false, .string a2_3]] rfl qraq ?_; (with_reducible refine (gangwayref07_Check.calls a2_0 a2_1 false a2_3 t581 _ A4.out).mono ?_); rintro e w72 ⟨rfl, hb⟩; refine ⟨_, rfl, ?_⟩; replace BK580 := Aside0.mk (blk_below (g := gb580) qza6 hb); replace HB := Aside0.mk (below_step qs62 hb); (try clear hb); (try clear hb2); (try clear hk); (try clear hi); obtain ⟨hcz73_0, hcz73_1, hcz73_2, hcz73_3⟩ := cells4 BK580.out; obtain ⟨hfz73_0, hfz73_1, hfz73_2, hfz73_3⟩ := frozen4 BK580.out))
           replace BK580 := Aside0.mk (blk_drew BK580.out)
           replace HB := Aside0.mk (below_drew1 HB.out)
           refine start_ (n := 14) (S := fun w' => w'.cell? ⟨gb580, 0, none⟩ = some (.int .i64 a2_0) ∧ w'.cell? ⟨gb580, 1, none⟩ = some (.int .i64 a2_1) ∧ w'.cell? ⟨gb580, 2, none⟩ = some (.bool false) ∧ w'.cell? ⟨gb580, 3, none⟩ = some (.string a2_3)) (ds := []) (ba 14 0) qg3m rfl rfl ⟨(blk_cell BK580.out 0).trans rfl, (blk_cell BK580.out 1).trans rfl, (blk_cell BK580.out 2).trans rfl, (blk_cell BK580.out 3).trans rfl⟩ (fun hHeld => ?_); refine with_tabW gangwayref07_Build.tab5 gangwayref07_Build.bits5 (fun HT_ HW_ => ?_)
           generalize w72.drew = w74 at BK580 HB hHeld ⊢
           refine pu_c3d (i := 0) (N := some 21) (ba 14 1) ?_
           refine pu_c3d (i := 4) (N := some 25) (ba 14 17) ?_
           refine pu_c3d (i := 9) (N := some 30) (ba 14 529) ?_
           refine pu_c3d (i := 10) (N := some 31) (ba 14 1553) ?_
           refine tk_15c (i := 1) (N := some 22) (ba 14 1555) hHeld ?_
           refine pu_c3d (i := 2) (N := some 23) (ba 14 1559) ?_
           refine tk_15c (i := 5) (N := some 26) (ba 14 1591) hHeld ?_
           refine pu_c3d (i := 6) (N := some 27) (ba 14 1655) ?_
           refine one_ (i := 3) (N := some 24) (ba 14 1663) rfl rfl (one_of HT_.out qg3m) qomw (fun K hK => ?_)
           refine goes_ Tryd.func51 qg3m rfl #[.int .u64 (IntKind.u64.wrap (a2_0)), .int .i64 2] qlo1 rfl rfl qraq ?_
           with_reducible refine (gangwayref01_Bytes.calls k (IntKind.u64.wrap (a2_0)) 2 t582 _ A6.out).mono ?_
           rintro e w75 ⟨rfl, hb⟩
           refine ⟨_, rfl, ?_⟩
           replace BK580 := Aside0.mk (blk_below (g := gb580) (o := .cells #[.int .i64 a2_0, .int .i64 a2_1, .bool false, .string a2_3] 31 (0, 0)) qza6 hb)
           replace HB := Aside0.mk (below_step qs62 hb)
           (try clear hb)
           (try clear hb2)
           (try clear hk)
           (try clear hi)
           refine hK.out _ _ q86v (fun hHeld => ?_)
           clear hK K
           refine norm_ (a' := ?_) ?_ ?_
           rotate_left
           ·exact z39_1
           refine one_ (i := 7) (N := some 28) (ba 14 1791) rfl rfl (one_of HT_.out qg3m) qomw (fun K hK => ?_)
           refine goes_ Tryd.func51 qg3m rfl #[.int .u64 (IntKind.u64.wrap (a2_1)), .int .i64 2] qlo1 rfl rfl qraq ?_
           with_reducible refine (gangwayref01_Bytes.calls k (IntKind.u64.wrap (a2_1)) 2 t583 _ A7.out).mono ?_
           rintro e w76 ⟨rfl, hb⟩
           refine ⟨_, rfl, ?_⟩
           replace BK580 := Aside0.mk (blk_below (g := gb580) (o := .cells #[.int .i64 a2_0, .int .i64 a2_1, .bool false, .string a2_3] 31 (0, 0)) qza6 hb)
           replace HB := Aside0.mk (below_step qs62 hb)
           (try clear hb)
           (try clear hb2)
           (try clear hk)
           (try clear hi)
           refine hK.out _ _ q86v (fun hHeld => ?_)
           clear hK K
           refine norm_ (a' := ?_) ?_ ?_
           rotate_left
           ·exact z39_2
           refine pu_c3d (i := 8) (N := some 29) (ba 14 2047) ?_
           refine one_ (i := 11) (N := some 32) (ba 14 4095) rfl rfl (one_of HT_.out qg3m) qomw (fun K hK => ?_)
           refine goes_ Tryd.func51 qg3m rfl #[.int .u64 (IntKind.u64.wrap (wrap64 ((a2_3.size : Int) + 8))), .int .i64 2] qlo1 rfl rfl qraq ?_
           with_reducible refine (gangwayref01_Bytes.calls k (IntKind.u64.wrap (wrap64 ((a2_3.size : Int) + 8))) 2 t584 _ A9.out).mono ?_
           rintro e w77 ⟨rfl, hb⟩
           refine ⟨_, rfl, ?_⟩
           replace BK580 := Aside0.mk (blk_below (g := gb580) (o := .cells #[.int .i64 a2_0, .int .i64 a2_1, .bool false, .string a2_3] 31 (0, 0)) qza6 hb)
           replace HB := Aside0.mk (below_step qs62 hb)
           (try clear hb)
           (try clear hb2)
           (try clear hk)
           (try clear hi)
           refine hK.out _ _ q86v (fun hHeld => ?_)
           clear hK K
           refine norm_ (a' := ?_) ?_ ?_
           rotate_left
           ·exact z39_3
           refine pu_c3d (i := 12) (N := some 33) (ba 14 8191) ?_
           refine pu_c3d (i := 13) (N := some 10) (ba 14 16383) ?_
           refine done_ (done_of HT_.out qg3m) ?_
           try go_wp2
           replace BK580 := Aside0.mk (blk_drew BK580.out)
           replace HB := Aside0.mk (below_drew1 HB.out)
           refine start_ (n := 12) (S := fun w' => w'.cell? ⟨gb580, 0, none⟩ = some (.int .i64 a2_0) ∧ w'.cell? ⟨gb580, 1, none⟩ = some (.int .i64 a2_1) ∧ w'.cell? ⟨gb580, 2, none⟩ = some (.bool false) ∧ w'.cell? ⟨gb580, 3, none⟩ = some (.string a2_3)) (ds := []) (ba 12 0) qg3m rfl rfl ⟨(blk_cell BK580.out 0).trans rfl, (blk_cell BK580.out 1).trans rfl, (blk_cell BK580.out 2).trans rfl, (blk_cell BK580.out 3).trans rfl⟩ (fun hHeld => ?_); refine with_tabW gangwayref07_Build.tab6 gangwayref07_Build.bits6 (fun HT_ HW_ => ?_)
           generalize w77.drew = w78 at BK580 HB hHeld ⊢
           refine pu_c3d (i := 0) (N := some 34) (ba 12 1) ?_
           refine pu_c3d (i := 1) (N := some 35) (ba 12 3) ?_
           refine pu_c3d (i := 2) (N := some 36) (ba 12 7) ?_
           refine pu_c3d (i := 4) (N := some 38) (ba 12 23) ?_
           refine pu_c3d (i := 7) (N := some 41) (ba 12 151) ?_
           refine tk_15c (i := 8) (N := some 42) (ba 12 407) hHeld ?_
           refine one_ (i := 3) (N := some 37) (ba 12 415) rfl rfl (one_of HT_.out qg3m) qomw (fun K hK => ?_)
           refine goes_ Tryd.func41 qg3m rfl #[.int .u32 a0, .int .u32 a1, .int .i64 17, .int .i64 (wrap64 ((a2_3.size : Int) + 8))] qlo1 rfl rfl qraq ?_
           with_reducible refine (gangwayref03_Head.calls k a0 a1 17 (wrap64 ((a2_3.size : Int) + 8)) t585 _ A11.out).mono ?_
           rintro e w79 ⟨rfl, hb⟩
           refine ⟨_, rfl, ?_⟩
           replace BK580 := Aside0.mk (blk_below (g := gb580) (o := .cells #[.int .i64 a2_0, .int .i64 a2_1, .bool false, .string a2_3] 31 (0, 0)) qza6 hb)
           replace HB := Aside0.mk (below_step qs62 hb)
           (try clear hb)
           (try clear hb2)
           (try clear hk)
           (try clear hi)
           refine hK.out _ _ q86v (fun hHeld => ?_)
           clear hK K
           refine norm_ (a' := ?_) ?_ ?_
           rotate_left
           ·exact z39_4
           refine pu_c3d (i := 5) (N := some 39) (ba 12 447) ?_
           refine pu_c3d (i := 6) (N := some 40) (ba 12 511) ?_
           refine pu_c3d (i := 9) (N := some 43) (ba 12 1023) ?_
           refine one_ (i := 10) (N := some 44) (ba 12 2047) rfl rfl (one_of HT_.out qg3m) qomw (fun K hK => ?_)
           refine goes_ Tryd.func38 qg3m rfl #[.string (((t585 ++ ((t582 ++ t583) ++ t584)) ++ (⟨#[0, 0]⟩ : ByteArray)) ++ a2_3)] qlo1 rfl rfl qraq ?_
           with_reducible refine (gangwayref03_Of.calls k (((t585 ++ ((t582 ++ t583) ++ t584)) ++ (⟨#[0, 0]⟩ : ByteArray)) ++ a2_3) t586 _ A15.out).mono ?_
           rintro e w' ⟨rfl, ⟨nd, rfl⟩⟩
           refine ⟨_, rfl, ?_⟩
           refine hK.out _ _ q86v (fun hHeld => ?_)
           clear hK K
           refine norm_ (a' := ?_) ?_ ?_
           rotate_left
           ·exact z39_5
           refine pu_c3d (i := 11) (N := some 11) (ba 12 4095) ?_
           refine done_ (done_of HT_.out qg3m) ?_
           obtain ⟨hcz80_0, hcz80_1, hcz80_2, hcz80_3⟩ := cells4 BK580.out
           obtain ⟨hfz80_0, hfz80_1, hfz80_2, hfz80_3⟩ := frozen4 BK580.out
           try go_wp2
           (try (rw [drewN_self w79]; generalize hq_ : World.drewN w79 _ = w79; have n0_ : Aside0 (w79.heap[gb580]? = some (.cells #[.int .i64 a2_0, .int .i64 a2_1, .bool false, .string a2_3] 31 (0, 0))) := ⟨(by rw [← hq_]; exact qza6)⟩; have n1_ : Aside0 (Below w.heap.size w w79) := ⟨(by rw [← hq_]; exact qs62)⟩; clear BK580 HB hq_; have BK580 := n0_; have HB := n1_; clear n0_ n1_))
           replace BK580 := Aside0.mk (blk_drew BK580.out)
           replace HB := Aside0.mk (below_drew1 HB.out)
           refine start_ (n := 10) (S := fun w' => w'.cell? ⟨gb580, 0, none⟩ = some (.int .i64 a2_0) ∧ w'.cell? ⟨gb580, 1, none⟩ = some (.int .i64 a2_1) ∧ w'.cell? ⟨gb580, 2, none⟩ = some (.bool false) ∧ w'.cell? ⟨gb580, 3, none⟩ = some (.string a2_3)) (ds := []) (ba 10 0) qg3m rfl rfl ⟨(blk_cell BK580.out 0).trans rfl, (blk_cell BK580.out 1).trans rfl, (blk_cell BK580.out 2).trans rfl, (blk_cell BK580.out 3).trans rfl⟩ (fun hHeld => ?_); refine with_tabW gangwayref07_Build.tab11 gangwayref07_Build.bits11 (fun HT_ HW_ => ?_)
           generalize w79.drew = w81 at BK580 HB hHeld ⊢
           refine pu_c3d (i := 0) (N := some 49) (ba 10 1) ?_
           refine pu_c3d (i := 1) (N := some 50) (ba 10 3) ?_
           refine pu_c3d (i := 2) (N := some 51) (ba 10 7) ?_
           refine pu_c3d (i := 5) (N := some 54) (ba 10 39) ?_
           refine tk_15c (i := 6) (N := some 55) (ba 10 103) hHeld ?_
           refine one_ (i := 3) (N := some 52) (ba 10 111) rfl rfl (one_of HT_.out qg3m) qomw (fun K hK => ?_)
           refine goes_ Tryd.func51 qg3m rfl #[.int .u64 (IntKind.u64.wrap (t586)), .int .i64 2] qlo1 rfl rfl qraq ?_
           with_reducible refine (gangwayref01_Bytes.calls k (IntKind.u64.wrap (t586)) 2 t590 _ A67.out).mono ?_
           rintro e w82 ⟨rfl, hb⟩
           refine ⟨_, rfl, ?_⟩
           replace BK580 := Aside0.mk (blk_below (g := gb580) (o := .cells #[.int .i64 a2_0, .int .i64 a2_1, .bool false, .string a2_3] 31 (0, 0)) qza6 hb)
           replace HB := Aside0.mk (below_step qs62 hb)
           (try clear hb)
           (try clear hb2)
           (try clear hk)
           (try clear hi)
           refine hK.out _ _ q86v (fun hHeld => ?_)
           clear hK K
           refine norm_ (a' := ?_) ?_ ?_
           rotate_left
           ·exact z39_6
           refine pu_c3d (i := 4) (N := some 53) (ba 10 127) ?_
           refine pu_c3d (i := 7) (N := some 56) (ba 10 255) ?_
           refine pu_c3d (i := 8) (N := some 6) (ba 10 511) ?_
           refine pu_c3d (i := 9) (N := some 7) (ba 10 1023) ?_
           refine done_ (done_of HT_.out qg3m) ?_
           try go_wp2
           go_ret2
           exact ⟨qxu5, qs62⟩
          ·rw [if_neg c69] at H
           exact absurd H q6hr
         ·rw [if_neg c68] at H
          exact absurd H q6hr
      ·rw [if_neg c14] at H
       exact absurd H q6hr
     ·rw [if_neg c13] at H
      exact absurd H q6hr
    ·rw [if_neg c12] at H
     exact absurd H q6hr
   ·rw [if_neg c10] at H
    exact absurd H q6hr
  ·rw [if_neg c8] at H
   exact absurd H q6hr
 ·rw [if_neg c5] at H
  have c5b0 : (t581 == 0) = false := beq_eq_false_iff_ne.mpr c5
  have c5b1 : (t581 != 0) = true := bne_iff_ne.mpr c5
  simp only [Option.some.injEq, Prod.mk.injEq] at H
  obtain ⟨rfl, rfl⟩ := H
  go_enter Tryd.func25, Tryd.ntmps25
  go_wp2_with (first | ((with_reducible refine gate_dst (N := 5) rfl ?_); refine box_event qgcr (N := 5) qgcr (cs := #[.int .i64 a2_0, .int .i64 a2_1, .bool a2_2, .string a2_3]) (t := 31) qlto ?_; intro gb580 hg w83 hbox hb; have BK580 := Aside0.mk (hbox); have GE580 := Aside0.mk ((qisx : w.heap.size ≤ gb580)); replace HB := Aside0.mk (below_step qpag hb); clear hb hbox hg; obtain ⟨hcz84_0, hcz84_1, hcz84_2, hcz84_3⟩ := cells4 BK580.out; obtain ⟨hfz84_0, hfz84_1, hfz84_2, hfz84_3⟩ := frozen4 BK580.out) | ((with_reducible refine gate_callee (f := 50) rfl ?_); refine goesL_ (some 13) rfl rfl Tryd.func50 qg3m rfl #[.agg #[.int .i64 a2_0, .int .i64 a2_1, .bool a2_2, .string a2_3]] rfl qraq ?_; (with_reducible refine (gangwayref07_Check.calls a2_0 a2_1 a2_2 a2_3 t581 _ A4.out).mono ?_); rintro e w85 ⟨rfl, hb⟩; refine ⟨_, rfl, ?_⟩; replace BK580 := Aside0.mk (blk_below (g := gb580) qza6 hb); replace HB := Aside0.mk (below_step qs62 hb); obtain ⟨hcy1_580_0, hcy1_580_1, hcy1_580_2, hcy1_580_3⟩ := cells4 BK580.out; (try clear hb); (try clear hb2); (try clear hk); (try clear hi)))
  go_ret2
  exact ⟨qxu5, qs62⟩
end Go.Proofs.YtbkgaplldfilnaaDoor.P
