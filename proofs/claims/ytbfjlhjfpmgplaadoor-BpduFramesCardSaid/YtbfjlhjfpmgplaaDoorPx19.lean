-- slim
-- Written by wip/hprint.py (this session's program) through the kit's print program; hand contracts are marked 'by hand'.
import Derived.Test.YtbfjlhjfpmgplaaDoorAbb
import Derived.Test.YtbfjlhjfpmgplaaDoorRow
import Derived.Test.YtbfjlhjfpmgplaaDoorPx0
import Derived.Test.YtbfjlhjfpmgplaaDoorPx18
namespace Go.Proofs.YtbfjlhjfpmgplaaDoor.P
open Go.RowKit Go.Proofs.YtbfjlhjfpmgplaaDoorW.PrintWords Go.Proofs.YtbfjlhjfpmgplaaDoorW.PrintLast Go.Proofs.YtbfjlhjfpmgplaaDoorW.PrintMore
attribute [local go_sem] max2_int min2_int max_two min_two max_three min_three max_four min_four   -- for this text's walks alone
set_option linter.unusedVariables false
set_option linter.unusedSimpArgs false

/-! ### gangwayref02_Group: function 39 -/
def gangwayref02_Group.f (a0 : Int) : Option (Bool) := some ((Int.tmod (IntKind.u64.wrap (Int.tdiv a0 1099511627776)) 2) == 1)
theorem z19_0 {p : Prop} (h : p := by
 go_wp2
 go_ret
 exact ⟨by first | rfl | (simp; done) | (simp [*]; done), by repeat (first | exact Drawn0.refl _ | apply Drawn0.step)⟩) : p := h
set_option maxHeartbeats 8000000 in
set_option maxRecDepth 100000 in
theorem gangwayref02_Group.calls (a0 : Int) (r : Bool) (w : World) (h : gangwayref02_Group.f a0 = some r) :
  Calls Tryd.prog 39 #[.int .u64 a0] w fun e w' => e = .returned (.bool r) ∧ Drawn0 w w' := by
 have H : (some ((Int.tmod (IntKind.u64.wrap (Int.tdiv a0 1099511627776)) 2) == 1)) = some r := h
 clear h
 obtain rfl := Option.some.inj H
 go_enter Tryd.func39, Tryd.ntmps39
 exact z19_0
/-! ### gangwayref02_Own: function 32 -/
def gangwayref02_Own.f (a0 : Int) : Option (Bool) := if a0 > 0 then (if a0 < 281474976710656 then ((gangwayref02_Group.f a0).bind fun t393 => (some (!t393))) else (some false)) else (some false)
set_option maxHeartbeats 8000000 in
set_option maxRecDepth 100000 in
theorem gangwayref02_Own.calls (a0 : Int) (r : Bool) (w : World) (h : gangwayref02_Own.f a0 = some r) :
  Calls Tryd.prog 32 #[.int .u64 a0] w fun e w' => e = .returned (.bool r) ∧ Drawn0 w w' := by
 have H : (if a0 > 0 then (if a0 < 281474976710656 then ((gangwayref02_Group.f a0).bind fun t393 => (some (!t393))) else (some false)) else (some false)) = some r := h
 clear h
 by_cases c2 : a0 > 0
 ·rw [if_pos c2] at H
  have c2b0 : decide (0 < a0) = true := decide_eq_true c2
  clear c2
  by_cases c3 : a0 < 281474976710656
  ·rw [if_pos c3] at H
   have c3b0 : decide (a0 < 281474976710656) = true := decide_eq_true c3
   clear c3
   replace H := Option.bind_eq_some_iff.mp H
   obtain ⟨t393, A40, H⟩ := H
   try dsimp only at H
   have A4 := Aside0.mk A40
   clear A40
   obtain rfl := Option.some.inj H
   go_enter Tryd.func32, Tryd.ntmps32
   go_wp2_with (first | (go_at_call 39; (with_reducible refine (gangwayref02_Group.calls a0 t393 _ A4.out).mono ?_); rintro e w' ⟨rfl, ⟨nd, rfl⟩⟩))
   go_ret
   exact ⟨by first | rfl | (simp; done) | (simp [*]; done), by repeat (first | exact Drawn0.refl _ | apply Drawn0.step)⟩
  ·rw [if_neg c3] at H
   have c3b0 : decide (a0 < 281474976710656) = false := decide_eq_false c3
   clear c3
   obtain rfl := Option.some.inj H
   go_enter Tryd.func32, Tryd.ntmps32
   exact z19_0
 ·rw [if_neg c2] at H
  have c2b0 : decide (0 < a0) = false := decide_eq_false c2
  clear c2
  obtain rfl := Option.some.inj H
  go_enter Tryd.func32, Tryd.ntmps32
  exact z19_0
/-! ### gangwayref09_Frame: function 16 -/
def gangwayref09_Frame.f (k : Nat) (a0 : Int) (a1_0 : Int) (a1_1 : Bool) (a1_2 : Bool) (a1_3 : Bool) (a1_4 : Bool) (a1_5 : Bool) (a1_6 : Bool) (a1_7 : Int) (a1_8 : Int) (a1_9 : Int) (a1_10 : Int) (a1_11 : Int) (a1_12 : Int) (a1_13 : Int) (a1_14 : Int) (a1_15 : Int) : Option (Int × Int × Bool × Int × Bool × Int × Int × ByteArray × Int) := (gangwayref09_Build.f k a1_0 a1_1 a1_2 a1_3 a1_4 a1_5 a1_6 a1_7 a1_8 a1_9 a1_10 a1_11 a1_12 a1_13 a1_14 a1_15).bind fun bt396 => (if bt396.2 = 0 then ((gangwayref02_Own.f a0).bind fun t398 => (if t398 = true then (some (1652522221568, a0, false, 0, false, 0, 0, bt396.1, 0)) else (some (0, 0, false, 0, false, 0, 0, (⟨#[]⟩ : ByteArray), 91)))) else (some (0, 0, false, 0, false, 0, 0, (⟨#[]⟩ : ByteArray), 91)))
theorem gangwayref09_Frame.mono : ∀ a0 a1 a2 a3 a4 a5 a6 a7 a8 a9 a10 a11 a12 a13 a14 a15 a16 k, LeO (gangwayref09_Frame.f k a0 a1 a2 a3 a4 a5 a6 a7 a8 a9 a10 a11 a12 a13 a14 a15 a16) (gangwayref09_Frame.f (k + 1) a0 a1 a2 a3 a4 a5 a6 a7 a8 a9 a10 a11 a12 a13 a14 a15 a16) := by
 intro a0 a1 a2 a3 a4 a5 a6 a7 a8 a9 a10 a11 a12 a13 a14 a15 a16 k
 unfold gangwayref09_Frame.f
 repeat' first
   | (with_reducible exact gangwayref09_Build.mono _ _ _ _ _ _ _ _ _ _ _ _ _ _ _ _ _)
   | (with_reducible exact LeO.refl _)
   | (with_reducible exact LeO.none _)
   | (with_reducible refine LeO.ite ?_ ?_)
   | (with_reducible refine LeO.bind ?_ (fun _ => ?_))
   | exact gangwayref09_Build.mono _ _ _ _ _ _ _ _ _ _ _ _ _ _ _ _ _
   | exact LeO.none _
   | refine LeO.ite ?_ ?_
   | refine LeO.bind ?_ (fun _ => ?_)
set_option maxHeartbeats 8000000 in
set_option maxRecDepth 100000 in
theorem gangwayref09_Frame.calls (k : Nat) (a0 : Int) (a1_0 : Int) (a1_1 : Bool) (a1_2 : Bool) (a1_3 : Bool) (a1_4 : Bool) (a1_5 : Bool) (a1_6 : Bool) (a1_7 : Int) (a1_8 : Int) (a1_9 : Int) (a1_10 : Int) (a1_11 : Int) (a1_12 : Int) (a1_13 : Int) (a1_14 : Int) (a1_15 : Int) (r1 : Int) (r2 : Int) (r3 : Bool) (r4 : Int) (r5 : Bool) (r6 : Int) (r7 : Int) (r8 : ByteArray) (r9 : Int) (w : World) (h : gangwayref09_Frame.f k a0 a1_0 a1_1 a1_2 a1_3 a1_4 a1_5 a1_6 a1_7 a1_8 a1_9 a1_10 a1_11 a1_12 a1_13 a1_14 a1_15 = some (r1, r2, r3, r4, r5, r6, r7, r8, r9)) :
  Calls Tryd.prog 16 #[.int .u64 a0, .agg #[.int .i64 a1_0, .bool a1_1, .bool a1_2, .bool a1_3, .bool a1_4, .bool a1_5, .bool a1_6, .int .i64 a1_7, .int .u64 a1_8, .int .i64 a1_9, .int .u64 a1_10, .int .i64 a1_11, .int .i64 a1_12, .int .i64 a1_13, .int .i64 a1_14, .int .i64 a1_15]] w fun e w' => e = .returned (.tuple #[.agg #[.int .u64 r1, .int .u64 r2, .bool r3, .int .i64 r4, .bool r5, .int .i64 r6, .int .i64 r7, .string r8], .int .i64 r9]) ∧ Below w.heap.size w w' := by
 have hu24 := Tryd.underlying24
 have hu37 := Tryd.underlying37
 have HB := Aside0.mk (Below.refl w.heap.size w)
 have H : ((gangwayref09_Build.f k a1_0 a1_1 a1_2 a1_3 a1_4 a1_5 a1_6 a1_7 a1_8 a1_9 a1_10 a1_11 a1_12 a1_13 a1_14 a1_15).bind fun bt396 => (if bt396.2 = 0 then ((gangwayref02_Own.f a0).bind fun t398 => (if t398 = true then (some (1652522221568, a0, false, 0, false, 0, 0, bt396.1, 0)) else (some (0, 0, false, 0, false, 0, 0, (⟨#[]⟩ : ByteArray), 91)))) else (some (0, 0, false, 0, false, 0, 0, (⟨#[]⟩ : ByteArray), 91)))) = some (r1, r2, r3, r4, r5, r6, r7, r8, r9) := h
 clear h
 replace H := Option.bind_eq_some_iff.mp H
 obtain ⟨⟨t396, t397⟩, A30, H⟩ := H
 try dsimp only at H
 have A3 := Aside0.mk A30
 clear A30
 by_cases c4 : t397 = 0
 ·rw [if_pos c4] at H
  have c4b0 : (t397 == 0) = true := beq_iff_eq.mpr c4
  have c4b1 : (t397 != 0) = false := bne_eq_false_iff_eq.mpr c4
  clear c4
  replace H := Option.bind_eq_some_iff.mp H
  obtain ⟨t398, A50, H⟩ := H
  try dsimp only at H
  have A5 := Aside0.mk A50
  clear A50
  by_cases c6 : t398 = true
  ·subst c6
   rw [if_pos rfl] at H
   simp only [Option.some.injEq, Prod.mk.injEq] at H
   obtain ⟨rfl, rfl, rfl, rfl, rfl, rfl, rfl, rfl, rfl⟩ := H
   go_enter Tryd.func16, Tryd.ntmps16
   go_wp2_with (first | ((with_reducible refine gate_st (ty := 24) rfl ?_); refine storeC16 rfl rfl rfl rfl rfl qb4 qo qf rfl ?_) | ((with_reducible refine gate_ld (ty := 24) rfl ?_); (try (with_reducible refine gate_gd rfl ?_; refine gate_guard qc8 ?_; dsimp only)); refine load_st rfl rfl rfl qb4 qo Tryd.underlying24 rfl qf ?_; (try simp only [Act.put, List.setIfInBounds_toArray, List.set_cons_zero, List.set_cons_succ])) | ((with_reducible refine gate_st (ty := 37) rfl ?_); refine storeC8 rfl rfl rfl rfl rfl qb4 qo qf rfl ?_) | ((with_reducible refine gate_ld (ty := 37) rfl ?_); (try (with_reducible refine gate_gd rfl ?_; refine gate_guard qc8 ?_; dsimp only)); refine load_st rfl rfl rfl qb4 qo Tryd.underlying37 rfl qf ?_; (try simp only [Act.put, List.setIfInBounds_toArray, List.set_cons_zero, List.set_cons_succ])) | ((with_reducible refine gate_dst (N := 3) rfl ?_); refine box_event ?hg (N := 3) ?hd (cs := #[.int .i64 a1_0, .bool a1_1, .bool a1_2, .bool a1_3, .bool a1_4, .bool a1_5, .bool a1_6, .int .i64 a1_7, .int .u64 a1_8, .int .i64 a1_9, .int .u64 a1_10, .int .i64 a1_11, .int .i64 a1_12, .int .i64 a1_13, .int .i64 a1_14, .int .i64 a1_15]) (t := 24) ?hr ?_; (case hd => rfl); (case hg => rfl); (case hr => first | (go_simp; done) | (go_simp; rfl)); intro gb394 hg w7 hbox hb; have n0_ := Aside0.mk (below_step qbh hb); have n1_ := Aside0.mk (hbox); have n2_ := Aside0.mk ((qcq : w.heap.size ≤ gb394)); have n3_ := Aside0.mk ((qcq : w.heap.size ≤ gb394)); clear HB; have HB := n0_; have BK394 := n1_; have GW394 := n2_; have GE394 := n3_; clear n0_ n1_ n2_ n3_; clear hb hbox hg) | ((with_reducible refine gate_dst (N := 4) rfl ?_); refine box_event ?hg (N := 4) ?hd (cs := #[.int .u64 0, .int .u64 0, .bool false, .int .i64 0, .bool false, .int .i64 0, .int .i64 0, .string (⟨#[]⟩ : ByteArray)]) (t := 37) ?hr ?_; (case hd => rfl); (case hg => rfl); (case hr => first | (go_simp; done) | (go_simp; rfl)); intro gb395 hg w8 hbox hb; have n0_ := Aside0.mk (blk_below (g := gb394) q1 hb); have n1_ := Aside0.mk (below_step qbo hb); have n2_ := Aside0.mk (hbox); have n3_ := Aside0.mk ((qcv : w.heap.size ≤ gb395)); have n4_ := Aside0.mk ((qcv : w.heap.size ≤ gb395)); have n5_ := Aside0.mk ((by rw [hg]; exact Nat.ne_of_lt (blk_lt (g := gb394) q1) : gb394 ≠ gb395)); have n6_ := Aside0.mk ((by rw [hg]; exact Nat.ne_of_gt (blk_lt (g := gb394) q1) : gb395 ≠ gb394)); clear BK394; clear HB; have BK394 := n0_; have HB := n1_; have BK395 := n2_; have GW395 := n3_; have GE395 := n4_; have NB394_395 := n5_; have NB395_394 := n6_; clear n0_ n1_ n2_ n3_ n4_ n5_ n6_; clear hb hbox hg; have hnb9 := NB394_395.out; have hnc9 := NB395_394.out; obtain ⟨hcz10_0, hcz10_1, hcz10_2, hcz10_3, hcz10_4, hcz10_5, hcz10_6, hcz10_7, hcz10_8, hcz10_9, hcz10_10, hcz10_11, hcz10_12, hcz10_13, hcz10_14, hcz10_15⟩ := cells16 BK394.out; obtain ⟨hfz10_0, hfz10_1, hfz10_2, hfz10_3, hfz10_4, hfz10_5, hfz10_6, hfz10_7, hfz10_8, hfz10_9, hfz10_10, hfz10_11, hfz10_12, hfz10_13, hfz10_14, hfz10_15⟩ := frozen16 BK394.out) | ((with_reducible refine gate_callee (f := 9) rfl ?_); refine goesL_ (some 10) rfl rfl Tryd.func9 qf rfl #[.agg #[.int .i64 a1_0, .bool a1_1, .bool a1_2, .bool a1_3, .bool a1_4, .bool a1_5, .bool a1_6, .int .i64 a1_7, .int .u64 a1_8, .int .i64 a1_9, .int .u64 a1_10, .int .i64 a1_11, .int .i64 a1_12, .int .i64 a1_13, .int .i64 a1_14, .int .i64 a1_15]] rfl qbi ?_; (with_reducible refine (gangwayref09_Build.calls k a1_0 a1_1 a1_2 a1_3 a1_4 a1_5 a1_6 a1_7 a1_8 a1_9 a1_10 a1_11 a1_12 a1_13 a1_14 a1_15 t396 t397 _ A3.out).mono ?_); rintro e w11 ⟨rfl, hb⟩; refine ⟨_, rfl, ?_⟩; have n0_ := Aside0.mk (blk_below (g := gb394) q1 hb); have n1_ := Aside0.mk (blk_below (g := gb395) q8 hb); have n2_ := Aside0.mk (below_step qcb hb); clear BK394; clear BK395; clear HB; have BK394 := n0_; have BK395 := n1_; have HB := n2_; clear n0_ n1_ n2_; obtain ⟨hcy2_394_0, hcy2_394_1, hcy2_394_2, hcy2_394_3, hcy2_394_4, hcy2_394_5, hcy2_394_6, hcy2_394_7, hcy2_394_8, hcy2_394_9, hcy2_394_10, hcy2_394_11, hcy2_394_12, hcy2_394_13, hcy2_394_14, hcy2_394_15⟩ := cells16 BK394.out; (try clear hb); (try clear hb2); (try clear hk); (try clear hi)) | (go_at_call 32; (with_reducible refine (gangwayref02_Own.calls a0 true _ A5.out).mono ?_); rintro e w' ⟨rfl, ⟨nd, rfl⟩⟩; (try (rw [drewN_self w11]; generalize hq_ : World.drewN w11 _ = w11; have n0_ : Aside0 (w11.heap[gb394]? = some (.cells #[.int .i64 a1_0, .bool a1_1, .bool a1_2, .bool a1_3, .bool a1_4, .bool a1_5, .bool a1_6, .int .i64 a1_7, .int .u64 a1_8, .int .i64 a1_9, .int .u64 a1_10, .int .i64 a1_11, .int .i64 a1_12, .int .i64 a1_13, .int .i64 a1_14, .int .i64 a1_15] 24 (0, 0))) := ⟨by rw [← hq_]; exact q1⟩; have n1_ : Aside0 (w11.heap[gb395]? = some (.cells #[.int .u64 0, .int .u64 0, .bool false, .int .i64 0, .bool false, .int .i64 0, .int .i64 0, .string (⟨#[]⟩ : ByteArray)] 37 (0, 0))) := ⟨by rw [← hq_]; exact q8⟩; have n2_ : Aside0 (Below w.heap.size w w11) := ⟨by rw [← hq_]; exact qcb⟩; clear BK394 BK395 HB hq_; have BK394 := n0_; have BK395 := n1_; have HB := n2_; clear n0_ n1_ n2_)); obtain ⟨hcz12_0, hcz12_1, hcz12_2, hcz12_3, hcz12_4, hcz12_5, hcz12_6, hcz12_7⟩ := cells8 BK395.out; obtain ⟨hfz12_0, hfz12_1, hfz12_2, hfz12_3, hfz12_4, hfz12_5, hfz12_6, hfz12_7⟩ := frozen8 BK395.out))
   refine bodyPost_ret (results_ct rfl _ _ gb395 37 #[.int .u64 1652522221568, .int .u64 a0, .bool false, .int .i64 0, .bool false, .int .i64 0, .int .i64 0, .string t396] (0, 0) _ rfl qda Tryd.underlying37 rfl qf) rfl ?_
   exact ⟨by first | rfl | (simp [errW_none, errW_some] <;> rfl) | (simp [*, errW_none, errW_some] <;> rfl) | (simp [*, IntKind.wrap_u32]; done) | (simp_all [IntKind.wrap_u32]; done), by repeat (first | (with_reducible first | exact HB.out | apply below_alloc | apply pw_below_drewN | apply below_drew1 | refine below_set ?_ GE394.out | refine below_set ?_ GE395.out) | exact HB.out)⟩
  ·replace c6 := Bool.eq_false_iff.mpr c6
   subst c6
   rw [if_neg (show ¬ (false = true) by decide)] at H
   simp only [Option.some.injEq, Prod.mk.injEq] at H
   obtain ⟨rfl, rfl, rfl, rfl, rfl, rfl, rfl, rfl, rfl⟩ := H
   go_enter Tryd.func16, Tryd.ntmps16
   go_wp2_with (first | ((with_reducible refine gate_st (ty := 24) rfl ?_); refine storeC16 rfl rfl rfl rfl rfl qb4 qo qf rfl ?_) | ((with_reducible refine gate_ld (ty := 24) rfl ?_); (try (with_reducible refine gate_gd rfl ?_; refine gate_guard qc8 ?_; dsimp only)); refine load_st rfl rfl rfl qb4 qo Tryd.underlying24 rfl qf ?_; (try simp only [Act.put, List.setIfInBounds_toArray, List.set_cons_zero, List.set_cons_succ])) | ((with_reducible refine gate_st (ty := 37) rfl ?_); refine storeC8 rfl rfl rfl rfl rfl qb4 qo qf rfl ?_) | ((with_reducible refine gate_ld (ty := 37) rfl ?_); (try (with_reducible refine gate_gd rfl ?_; refine gate_guard qc8 ?_; dsimp only)); refine load_st rfl rfl rfl qb4 qo Tryd.underlying37 rfl qf ?_; (try simp only [Act.put, List.setIfInBounds_toArray, List.set_cons_zero, List.set_cons_succ])) | ((with_reducible refine gate_dst (N := 3) rfl ?_); refine box_event ?hg (N := 3) ?hd (cs := #[.int .i64 a1_0, .bool a1_1, .bool a1_2, .bool a1_3, .bool a1_4, .bool a1_5, .bool a1_6, .int .i64 a1_7, .int .u64 a1_8, .int .i64 a1_9, .int .u64 a1_10, .int .i64 a1_11, .int .i64 a1_12, .int .i64 a1_13, .int .i64 a1_14, .int .i64 a1_15]) (t := 24) ?hr ?_; (case hd => rfl); (case hg => rfl); (case hr => first | (go_simp; done) | (go_simp; rfl)); intro gb394 hg w13 hbox hb; have n0_ := Aside0.mk (below_step qbh hb); have n1_ := Aside0.mk (hbox); have n2_ := Aside0.mk ((qcq : w.heap.size ≤ gb394)); have n3_ := Aside0.mk ((qcq : w.heap.size ≤ gb394)); clear HB; have HB := n0_; have BK394 := n1_; have GW394 := n2_; have GE394 := n3_; clear n0_ n1_ n2_ n3_; clear hb hbox hg) | ((with_reducible refine gate_dst (N := 4) rfl ?_); refine box_event ?hg (N := 4) ?hd (cs := #[.int .u64 0, .int .u64 0, .bool false, .int .i64 0, .bool false, .int .i64 0, .int .i64 0, .string (⟨#[]⟩ : ByteArray)]) (t := 37) ?hr ?_; (case hd => rfl); (case hg => rfl); (case hr => first | (go_simp; done) | (go_simp; rfl)); intro gb395 hg w14 hbox hb; have n0_ := Aside0.mk (blk_below (g := gb394) q1 hb); have n1_ := Aside0.mk (below_step qbo hb); have n2_ := Aside0.mk (hbox); have n3_ := Aside0.mk ((qcv : w.heap.size ≤ gb395)); have n4_ := Aside0.mk ((qcv : w.heap.size ≤ gb395)); have n5_ := Aside0.mk ((by rw [hg]; exact Nat.ne_of_lt (blk_lt (g := gb394) q1) : gb394 ≠ gb395)); have n6_ := Aside0.mk ((by rw [hg]; exact Nat.ne_of_gt (blk_lt (g := gb394) q1) : gb395 ≠ gb394)); clear BK394; clear HB; have BK394 := n0_; have HB := n1_; have BK395 := n2_; have GW395 := n3_; have GE395 := n4_; have NB394_395 := n5_; have NB395_394 := n6_; clear n0_ n1_ n2_ n3_ n4_ n5_ n6_; clear hb hbox hg; have hnb15 := NB394_395.out; have hnc15 := NB395_394.out; obtain ⟨hcz16_0, hcz16_1, hcz16_2, hcz16_3, hcz16_4, hcz16_5, hcz16_6, hcz16_7, hcz16_8, hcz16_9, hcz16_10, hcz16_11, hcz16_12, hcz16_13, hcz16_14, hcz16_15⟩ := cells16 BK394.out; obtain ⟨hfz16_0, hfz16_1, hfz16_2, hfz16_3, hfz16_4, hfz16_5, hfz16_6, hfz16_7, hfz16_8, hfz16_9, hfz16_10, hfz16_11, hfz16_12, hfz16_13, hfz16_14, hfz16_15⟩ := frozen16 BK394.out) | ((with_reducible refine gate_callee (f := 9) rfl ?_); refine goesL_ (some 10) rfl rfl Tryd.func9 qf rfl #[.agg #[.int .i64 a1_0, .bool a1_1, .bool a1_2, .bool a1_3, .bool a1_4, .bool a1_5, .bool a1_6, .int .i64 a1_7, .int .u64 a1_8, .int .i64 a1_9, .int .u64 a1_10, .int .i64 a1_11, .int .i64 a1_12, .int .i64 a1_13, .int .i64 a1_14, .int .i64 a1_15]] rfl qbi ?_; (with_reducible refine (gangwayref09_Build.calls k a1_0 a1_1 a1_2 a1_3 a1_4 a1_5 a1_6 a1_7 a1_8 a1_9 a1_10 a1_11 a1_12 a1_13 a1_14 a1_15 t396 t397 _ A3.out).mono ?_); rintro e w17 ⟨rfl, hb⟩; refine ⟨_, rfl, ?_⟩; have n0_ := Aside0.mk (blk_below (g := gb394) q1 hb); have n1_ := Aside0.mk (blk_below (g := gb395) q8 hb); have n2_ := Aside0.mk (below_step qcb hb); clear BK394; clear BK395; clear HB; have BK394 := n0_; have BK395 := n1_; have HB := n2_; clear n0_ n1_ n2_; obtain ⟨hcy2_394_0, hcy2_394_1, hcy2_394_2, hcy2_394_3, hcy2_394_4, hcy2_394_5, hcy2_394_6, hcy2_394_7, hcy2_394_8, hcy2_394_9, hcy2_394_10, hcy2_394_11, hcy2_394_12, hcy2_394_13, hcy2_394_14, hcy2_394_15⟩ := cells16 BK394.out; (try clear hb); (try clear hb2); (try clear hk); (try clear hi)) | (go_at_call 32; (with_reducible refine (gangwayref02_Own.calls a0 false _ A5.out).mono ?_); rintro e w' ⟨rfl, ⟨nd, rfl⟩⟩; (try (rw [drewN_self w17]; generalize hq_ : World.drewN w17 _ = w17; have n0_ : Aside0 (w17.heap[gb394]? = some (.cells #[.int .i64 a1_0, .bool a1_1, .bool a1_2, .bool a1_3, .bool a1_4, .bool a1_5, .bool a1_6, .int .i64 a1_7, .int .u64 a1_8, .int .i64 a1_9, .int .u64 a1_10, .int .i64 a1_11, .int .i64 a1_12, .int .i64 a1_13, .int .i64 a1_14, .int .i64 a1_15] 24 (0, 0))) := ⟨by rw [← hq_]; exact q1⟩; have n1_ : Aside0 (w17.heap[gb395]? = some (.cells #[.int .u64 0, .int .u64 0, .bool false, .int .i64 0, .bool false, .int .i64 0, .int .i64 0, .string (⟨#[]⟩ : ByteArray)] 37 (0, 0))) := ⟨by rw [← hq_]; exact q8⟩; have n2_ : Aside0 (Below w.heap.size w w17) := ⟨by rw [← hq_]; exact qcb⟩; clear BK394 BK395 HB hq_; have BK394 := n0_; have BK395 := n1_; have HB := n2_; clear n0_ n1_ n2_)); obtain ⟨hcz18_0, hcz18_1, hcz18_2, hcz18_3, hcz18_4, hcz18_5, hcz18_6, hcz18_7⟩ := cells8 BK395.out; obtain ⟨hfz18_0, hfz18_1, hfz18_2, hfz18_3, hfz18_4, hfz18_5, hfz18_6, hfz18_7⟩ := frozen8 BK395.out))
   refine bodyPost_ret (results_ct rfl _ _ gb395 37 #[.int .u64 0, .int .u64 0, .bool false, .int .i64 0, .bool false, .int .i64 0, .int .i64 0, .string (⟨#[]⟩ : ByteArray)] (0, 0) _ rfl qda Tryd.underlying37 rfl qf) rfl ?_
   exact ⟨by first | rfl | (simp [errW_none, errW_some] <;> rfl) | (simp [*, errW_none, errW_some] <;> rfl) | (simp [*, IntKind.wrap_u32]; done) | (simp_all [IntKind.wrap_u32]; done), by repeat (first | (with_reducible first | exact HB.out | apply below_alloc | apply pw_below_drewN | apply below_drew1 | refine below_set ?_ GE394.out | refine below_set ?_ GE395.out) | exact HB.out)⟩
 ·rw [if_neg c4] at H
  have c4b0 : (t397 == 0) = false := beq_eq_false_iff_ne.mpr c4
  have c4b1 : (t397 != 0) = true := bne_iff_ne.mpr c4
  simp only [Option.some.injEq, Prod.mk.injEq] at H
  obtain ⟨rfl, rfl, rfl, rfl, rfl, rfl, rfl, rfl, rfl⟩ := H
  go_enter Tryd.func16, Tryd.ntmps16
  go_wp2_with (first | ((with_reducible refine gate_st (ty := 24) rfl ?_); refine storeC16 rfl rfl rfl rfl rfl qb4 qo qf rfl ?_) | ((with_reducible refine gate_ld (ty := 24) rfl ?_); (try (with_reducible refine gate_gd rfl ?_; refine gate_guard qc8 ?_; dsimp only)); refine load_st rfl rfl rfl qb4 qo Tryd.underlying24 rfl qf ?_; (try simp only [Act.put, List.setIfInBounds_toArray, List.set_cons_zero, List.set_cons_succ])) | ((with_reducible refine gate_st (ty := 37) rfl ?_); refine storeC8 rfl rfl rfl rfl rfl qb4 qo qf rfl ?_) | ((with_reducible refine gate_ld (ty := 37) rfl ?_); (try (with_reducible refine gate_gd rfl ?_; refine gate_guard qc8 ?_; dsimp only)); refine load_st rfl rfl rfl qb4 qo Tryd.underlying37 rfl qf ?_; (try simp only [Act.put, List.setIfInBounds_toArray, List.set_cons_zero, List.set_cons_succ])) | ((with_reducible refine gate_dst (N := 3) rfl ?_); refine box_event ?hg (N := 3) ?hd (cs := #[.int .i64 a1_0, .bool a1_1, .bool a1_2, .bool a1_3, .bool a1_4, .bool a1_5, .bool a1_6, .int .i64 a1_7, .int .u64 a1_8, .int .i64 a1_9, .int .u64 a1_10, .int .i64 a1_11, .int .i64 a1_12, .int .i64 a1_13, .int .i64 a1_14, .int .i64 a1_15]) (t := 24) ?hr ?_; (case hd => rfl); (case hg => rfl); (case hr => first | (go_simp; done) | (go_simp; rfl)); intro gb394 hg w19 hbox hb; have n0_ := Aside0.mk (below_step qbh hb); have n1_ := Aside0.mk (hbox); have n2_ := Aside0.mk ((qcq : w.heap.size ≤ gb394)); have n3_ := Aside0.mk ((qcq : w.heap.size ≤ gb394)); clear HB; have HB := n0_; have BK394 := n1_; have GW394 := n2_; have GE394 := n3_; clear n0_ n1_ n2_ n3_; clear hb hbox hg) | ((with_reducible refine gate_dst (N := 4) rfl ?_); refine box_event ?hg (N := 4) ?hd (cs := #[.int .u64 0, .int .u64 0, .bool false, .int .i64 0, .bool false, .int .i64 0, .int .i64 0, .string (⟨#[]⟩ : ByteArray)]) (t := 37) ?hr ?_; (case hd => rfl); (case hg => rfl); (case hr => first | (go_simp; done) | (go_simp; rfl)); intro gb395 hg w20 hbox hb; have n0_ := Aside0.mk (blk_below (g := gb394) q1 hb); have n1_ := Aside0.mk (below_step qbo hb); have n2_ := Aside0.mk (hbox); have n3_ := Aside0.mk ((qcv : w.heap.size ≤ gb395)); have n4_ := Aside0.mk ((qcv : w.heap.size ≤ gb395)); have n5_ := Aside0.mk ((by rw [hg]; exact Nat.ne_of_lt (blk_lt (g := gb394) q1) : gb394 ≠ gb395)); have n6_ := Aside0.mk ((by rw [hg]; exact Nat.ne_of_gt (blk_lt (g := gb394) q1) : gb395 ≠ gb394)); clear BK394; clear HB; have BK394 := n0_; have HB := n1_; have BK395 := n2_; have GW395 := n3_; have GE395 := n4_; have NB394_395 := n5_; have NB395_394 := n6_; clear n0_ n1_ n2_ n3_ n4_ n5_ n6_; clear hb hbox hg; have hnb21 := NB394_395.out; have hnc21 := NB395_394.out; obtain ⟨hcz22_0, hcz22_1, hcz22_2, hcz22_3, hcz22_4, hcz22_5, hcz22_6, hcz22_7, hcz22_8, hcz22_9, hcz22_10, hcz22_11, hcz22_12, hcz22_13, hcz22_14, hcz22_15⟩ := cells16 BK394.out; obtain ⟨hfz22_0, hfz22_1, hfz22_2, hfz22_3, hfz22_4, hfz22_5, hfz22_6, hfz22_7, hfz22_8, hfz22_9, hfz22_10, hfz22_11, hfz22_12, hfz22_13, hfz22_14, hfz22_15⟩ := frozen16 BK394.out) | ((with_reducible refine gate_callee (f := 9) rfl ?_); refine goesL_ (some 10) rfl rfl Tryd.func9 qf rfl #[.agg #[.int .i64 a1_0, .bool a1_1, .bool a1_2, .bool a1_3, .bool a1_4, .bool a1_5, .bool a1_6, .int .i64 a1_7, .int .u64 a1_8, .int .i64 a1_9, .int .u64 a1_10, .int .i64 a1_11, .int .i64 a1_12, .int .i64 a1_13, .int .i64 a1_14, .int .i64 a1_15]] rfl qbi ?_; (with_reducible refine (gangwayref09_Build.calls k a1_0 a1_1 a1_2 a1_3 a1_4 a1_5 a1_6 a1_7 a1_8 a1_9 a1_10 a1_11 a1_12 a1_13 a1_14 a1_15 t396 t397 _ A3.out).mono ?_); rintro e w23 ⟨rfl, hb⟩; refine ⟨_, rfl, ?_⟩; have n0_ := Aside0.mk (blk_below (g := gb394) q1 hb); have n1_ := Aside0.mk (blk_below (g := gb395) q8 hb); have n2_ := Aside0.mk (below_step qcb hb); clear BK394; clear BK395; clear HB; have BK394 := n0_; have BK395 := n1_; have HB := n2_; clear n0_ n1_ n2_; obtain ⟨hcy2_394_0, hcy2_394_1, hcy2_394_2, hcy2_394_3, hcy2_394_4, hcy2_394_5, hcy2_394_6, hcy2_394_7, hcy2_394_8, hcy2_394_9, hcy2_394_10, hcy2_394_11, hcy2_394_12, hcy2_394_13, hcy2_394_14, hcy2_394_15⟩ := cells16 BK394.out; (try clear hb); (try clear hb2); (try clear hk); (try clear hi); obtain ⟨hcz24_0, hcz24_1, hcz24_2, hcz24_3, hcz24_4, hcz24_5, hcz24_6, hcz24_7⟩ := cells8 BK395.out; obtain ⟨hfz24_0, hfz24_1, hfz24_2, hfz24_3, hfz24_4, hfz24_5, hfz24_6, hfz24_7⟩ := frozen8 BK395.out))
  refine bodyPost_ret (results_ct rfl _ _ gb395 37 #[.int .u64 0, .int .u64 0, .bool false, .int .i64 0, .bool false, .int .i64 0, .int .i64 0, .string (⟨#[]⟩ : ByteArray)] (0, 0) _ rfl qda Tryd.underlying37 rfl qf) rfl ?_
  exact ⟨by first | rfl | (simp [errW_none, errW_some] <;> rfl) | (simp [*, errW_none, errW_some] <;> rfl) | (simp [*, IntKind.wrap_u32]; done) | (simp_all [IntKind.wrap_u32]; done), by repeat (first | (with_reducible first | exact HB.out | apply below_alloc | apply pw_below_drewN | apply below_drew1 | refine below_set ?_ GE394.out | refine below_set ?_ GE395.out) | exact HB.out)⟩
/-! ### gangwayref01_Num: function 30 -/
def gangwayref01_Num.l0 : Nat → ByteArray → Int → Int → Option (Int)
 | 0, _, _, _ => none
 | k + 1, x0, x3, x4 => if x4 < (x0.size : Int) then (if 0 ≤ x4 then (gangwayref01_Num.l0 k x0 (IntKind.u64.wrap ((IntKind.u64.wrap (x3 * 256)) + (IntKind.u64.wrap (bt x0 x4)))) (wrap64 (x4 + 1))) else (none)) else (some x3)
def gangwayref01_Num.f (k : Nat) (a0 : ByteArray) : Option (Int) := gangwayref01_Num.l0 k a0 0 0
theorem gangwayref01_Num.mono_l : ∀ k, (∀ y0 y1 y2, LeO (gangwayref01_Num.l0 k y0 y1 y2) (gangwayref01_Num.l0 (k + 1) y0 y1 y2))
 | 0 => fun _ _ _ r h => by simp [gangwayref01_Num.l0] at h
 | k + 1 => by
  have ih0 := gangwayref01_Num.mono_l k
  ·intro y0 y1 y2
   unfold gangwayref01_Num.l0
   repeat' first
   | (with_reducible exact ih0 _ _ _)
   | (with_reducible exact LeO.refl _)
   | (with_reducible exact LeO.none _)
   | (with_reducible refine LeO.ite ?_ ?_)
   | (with_reducible refine LeO.bind ?_ (fun _ => ?_))
   | exact ih0 _ _ _
   | exact LeO.none _
   | refine LeO.ite ?_ ?_
   | refine LeO.bind ?_ (fun _ => ?_)
theorem gangwayref01_Num.mono : ∀ a0 k, LeO (gangwayref01_Num.f k a0) (gangwayref01_Num.f (k + 1) a0) := by
 intro a0 k
 have ih0 := gangwayref01_Num.mono_l k
 unfold gangwayref01_Num.f
 repeat' first
   | (with_reducible exact ih0 _ _ _)
   | (with_reducible exact LeO.refl _)
   | (with_reducible exact LeO.none _)
   | (with_reducible refine LeO.ite ?_ ?_)
   | (with_reducible refine LeO.bind ?_ (fun _ => ?_))
   | exact ih0 _ _ _
   | exact LeO.none _
   | refine LeO.ite ?_ ?_
   | refine LeO.bind ?_ (fun _ => ?_)
set_option maxHeartbeats 8000000 in
set_option maxRecDepth 100000 in
theorem gangwayref01_Num.calls (k : Nat) (a0 : ByteArray) (r : Int) (w : World) (h : gangwayref01_Num.f k a0 = some r) :
  Calls Tryd.prog 30 #[.string a0] w fun e w' => e = .returned (.int .u64 r) ∧ Drawn0 w w' := by
 have H : (gangwayref01_Num.l0 k a0 0 0) = some r := h
 clear h
 have H' := Aside0.mk H
 clear H
 go_enter Tryd.func30, Tryd.ntmps30
 go_wp2
 go_loopg [3, 4] k (fun kq v3 v4 w' => ∃ (x3_1 : Int) (x4_1 : Int), v3 = .int .u64 x3_1 ∧ v4 = .int .i64 x4_1 ∧ Aside0 (gangwayref01_Num.l0 kq a0 x3_1 x4_1 = some r) ∧ Aside0 (kq ≤ k) ∧ Drawn0 w w')
 case atStart => exact ⟨(0), (0), qk, qk, H', ⟨Nat.le_refl _⟩, by repeat (first | exact Drawn0.refl _ | apply Drawn0.step)⟩
 case round =>
  clear H'
  obtain ⟨x3_1, x4_1, rfl, rfl, HA, HK1, ⟨m1, rfl⟩⟩ := hrel
  cases gk with
  | zero => exact absurd HA.out (by simp [gangwayref01_Num.l0])
  | succ k1 =>
   have H := HA.out
   clear HA
   simp only [gangwayref01_Num.l0] at H
   by_cases c2 : x4_1 < (a0.size : Int)
   ·rw [if_pos c2] at H
    have c2b0 : decide (x4_1 < (a0.size : Int)) = true := decide_eq_true c2
    clear c2
    by_cases c3 : 0 ≤ x4_1
    ·rw [if_pos c3] at H
     have c3b0 : decide (0 ≤ x4_1) = true := decide_eq_true c3
     clear c3
     have H' := Aside0.mk H
     clear H
     have p4 : 0 ≤ (x4_1 : Int) := of_decide_eq_true ql
     have q4 : x4_1 < (a0.size : Int) := of_decide_eq_true ql
     have hx4 := bt_at a0 x4_1
     replace p4 := eq_true p4
     replace q4 := eq_true q4
     go_wp2
     go_roundg k1
     case measure => have := HK1.out; omega
     case rel => exact ⟨(IntKind.u64.wrap ((IntKind.u64.wrap (x3_1 * 256)) + (IntKind.u64.wrap (bt a0 x4_1)))), (wrap64 (x4_1 + 1)), qk, qk, H', ⟨by have := HK1.out; omega⟩, by repeat (first | exact Drawn0.refl _ | apply Drawn0.step)⟩
    ·rw [if_neg c3] at H
     exact absurd H qb
   ·rw [if_neg c2] at H
    have c2b0 : decide (x4_1 < (a0.size : Int)) = false := decide_eq_false c2
    clear c2
    obtain rfl := Option.some.inj H
    exact z19_0
end Go.Proofs.YtbfjlhjfpmgplaaDoor.P
