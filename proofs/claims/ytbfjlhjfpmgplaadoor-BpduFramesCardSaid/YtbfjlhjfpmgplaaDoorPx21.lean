-- slim
-- Written by wip/hprint.py (this session's program) through the kit's print program; hand contracts are marked 'by hand'.
import Derived.Test.YtbfjlhjfpmgplaaDoorAbb
import Derived.Test.YtbfjlhjfpmgplaaDoorRow
import Derived.Test.YtbfjlhjfpmgplaaDoorPx0
import Derived.Test.YtbfjlhjfpmgplaaDoorPx19
import Derived.Test.YtbfjlhjfpmgplaaDoorPx20
namespace Go.Proofs.YtbfjlhjfpmgplaaDoor.P
open Go.RowKit Go.Proofs.YtbfjlhjfpmgplaaDoorW.PrintWords Go.Proofs.YtbfjlhjfpmgplaaDoorW.PrintLast Go.Proofs.YtbfjlhjfpmgplaaDoorW.PrintMore
attribute [local go_sem] max2_int min2_int max_two min_two max_three min_three max_four min_four   -- for this text's walks alone
set_option linter.unusedVariables false
set_option linter.unusedSimpArgs false

/-! ### gangwayref09_Parse: function 14 -/
mutual
def gangwayref09_Parse.j0 : Nat → ByteArray → Int → Bool → Option (Int × Bool × Bool × Bool × Bool × Bool × Bool × Int × Int × Int × Int × Int × Int × Int × Int × Int × Int)
 | 0, _, _, _ => none
 | k + 1, x0, x4, x25 => if x25 = true then (some (0, false, false, false, false, false, false, 0, 0, 0, 0, 0, 0, 0, 0, 0, 91)) else (if (x0.size : Int) < 38 then (gangwayref09_Parse.j1 k x0 x4 true) else (if x4 = 0 then (gangwayref09_Parse.j1 k x0 x4 false) else (gangwayref09_Parse.j1 k x0 x4 (decide ((x0.size : Int) < 39)))))
def gangwayref09_Parse.j1 : Nat → ByteArray → Int → Bool → Option (Int × Bool × Bool × Bool × Bool × Bool × Bool × Int × Int × Int × Int × Int × Int × Int × Int × Int × Int)
 | 0, _, _, _ => none
 | k + 1, x0, x4, x38 => if x38 = true then (some (0, false, false, false, false, false, false, 0, 0, 0, 0, 0, 0, 0, 0, 0, 90)) else ((gangwayref09_num.f k x0 7 8).bind fun t402 => (if 8 ≤ 16 then (if 16 ≤ (x0.size : Int) then ((gangwayref01_Num.f k (x0.extract 8 16)).bind fun t403 => ((gangwayref09_num.f k x0 16 20).bind fun t404 => (if 20 ≤ 28 then (if 28 ≤ (x0.size : Int) then ((gangwayref01_Num.f k (x0.extract 20 28)).bind fun t405 => ((gangwayref09_num.f k x0 28 30).bind fun t406 => ((gangwayref09_num.f k x0 30 32).bind fun t407 => ((gangwayref09_num.f k x0 32 34).bind fun t408 => ((gangwayref09_num.f k x0 34 36).bind fun t409 => ((gangwayref09_num.f k x0 36 38).bind fun t410 => (gangwayref09_Parse.j2 k t402 (x4 != 0) 0 ((Int.tmod t402 2) == 1) false false false false ((wrap64 (Int.tdiv t402 128)) == 1) 0 t403 t404 t405 t406 t407 t408 t409 t410))))))) else (none)) else (none)))) else (none)) else (none)))
def gangwayref09_Parse.j2 : Nat → Int → Bool → Int → Bool → Bool → Bool → Bool → Bool → Bool → Int → Int → Int → Int → Int → Int → Int → Int → Int → Option (Int × Bool × Bool × Bool × Bool × Bool × Bool × Int × Int × Int × Int × Int × Int × Int × Int × Int × Int)
 | 0, _, _, _, _, _, _, _, _, _, _, _, _, _, _, _, _, _, _ => none
 | k + 1, x5, x68, x412000, x412001, x412002, x412003, x412004, x412005, x412006, x412007, x412008, x412009, x412010, x412011, x412012, x412013, x412014, x412015 => if x68 = true then (some (2, x412001, ((Int.tmod (wrap64 (Int.tdiv x5 2)) 2) == 1), ((Int.tmod (wrap64 (Int.tdiv x5 16)) 2) == 1), ((Int.tmod (wrap64 (Int.tdiv x5 32)) 2) == 1), ((Int.tmod (wrap64 (Int.tdiv x5 64)) 2) == 1), x412006, Int.tmod (wrap64 (Int.tdiv x5 4)) 4, x412008, x412009, x412010, x412011, x412012, x412013, x412014, x412015, 0)) else (some (x412000, x412001, x412002, x412003, x412004, x412005, x412006, x412007, x412008, x412009, x412010, x412011, x412012, x412013, x412014, x412015, 0))
end
def gangwayref09_Parse.f (k : Nat) (a0 : ByteArray) : Option (Int × Bool × Bool × Bool × Bool × Bool × Bool × Int × Int × Int × Int × Int × Int × Int × Int × Int × Int) := if (a0.size : Int) < 7 then (some (0, false, false, false, false, false, false, 0, 0, 0, 0, 0, 0, 0, 0, 0, 90)) else (if 0 ≤ 5 then (if 5 ≤ (a0.size : Int) then (if (a0.extract 0 5).toList = ([66, 66, 3, 0, 0] : List UInt8) then ((gangwayref09_num.f k a0 5 7).bind fun t401 => (if t401 = 128 then (some (128, false, false, false, false, false, false, 0, 0, 0, 0, 0, 0, 0, 0, 0, 0)) else (if t401 = 0 then (gangwayref09_Parse.j0 k a0 t401 false) else (gangwayref09_Parse.j0 k a0 t401 (t401 != 514))))) else (some (0, false, false, false, false, false, false, 0, 0, 0, 0, 0, 0, 0, 0, 0, 91))) else (none)) else (none))
theorem gangwayref09_Parse.mono_l : ∀ k, (∀ y0 y1 y2, LeO (gangwayref09_Parse.j0 k y0 y1 y2) (gangwayref09_Parse.j0 (k + 1) y0 y1 y2)) ∧ (∀ y0 y1 y2, LeO (gangwayref09_Parse.j1 k y0 y1 y2) (gangwayref09_Parse.j1 (k + 1) y0 y1 y2)) ∧ (∀ y0 y1 y2 y3 y4 y5 y6 y7 y8 y9 y10 y11 y12 y13 y14 y15 y16 y17, LeO (gangwayref09_Parse.j2 k y0 y1 y2 y3 y4 y5 y6 y7 y8 y9 y10 y11 y12 y13 y14 y15 y16 y17) (gangwayref09_Parse.j2 (k + 1) y0 y1 y2 y3 y4 y5 y6 y7 y8 y9 y10 y11 y12 y13 y14 y15 y16 y17))
 | 0 => ⟨fun _ _ _ r h => by simp [gangwayref09_Parse.j0] at h, fun _ _ _ r h => by simp [gangwayref09_Parse.j1] at h, fun _ _ _ _ _ _ _ _ _ _ _ _ _ _ _ _ _ _ r h => by simp [gangwayref09_Parse.j2] at h⟩
 | k + 1 => by
  obtain ⟨ih0, ih1, ih2⟩ := gangwayref09_Parse.mono_l k
  refine ⟨?_, ?_, ?_⟩
  ·intro y0 y1 y2
   unfold gangwayref09_Parse.j0
   repeat' first
   | (with_reducible exact ih0 _ _ _)
   | (with_reducible exact ih1 _ _ _)
   | (with_reducible exact ih2 _ _ _ _ _ _ _ _ _ _ _ _ _ _ _ _ _ _)
   | (with_reducible exact gangwayref01_Num.mono _ _)
   | (with_reducible exact gangwayref09_num.mono _ _ _ _)
   | (with_reducible exact LeO.refl _)
   | (with_reducible exact LeO.none _)
   | (with_reducible refine LeO.ite ?_ ?_)
   | (with_reducible refine LeO.bind ?_ (fun _ => ?_))
   | exact ih0 _ _ _
   | exact ih1 _ _ _
   | exact ih2 _ _ _ _ _ _ _ _ _ _ _ _ _ _ _ _ _ _
   | exact gangwayref01_Num.mono _ _
   | exact gangwayref09_num.mono _ _ _ _
   | exact LeO.none _
   | refine LeO.ite ?_ ?_
   | refine LeO.bind ?_ (fun _ => ?_)
  ·intro y0 y1 y2
   unfold gangwayref09_Parse.j1
   repeat' first
   | (with_reducible exact ih0 _ _ _)
   | (with_reducible exact ih1 _ _ _)
   | (with_reducible exact ih2 _ _ _ _ _ _ _ _ _ _ _ _ _ _ _ _ _ _)
   | (with_reducible exact gangwayref01_Num.mono _ _)
   | (with_reducible exact gangwayref09_num.mono _ _ _ _)
   | (with_reducible exact LeO.refl _)
   | (with_reducible exact LeO.none _)
   | (with_reducible refine LeO.ite ?_ ?_)
   | (with_reducible refine LeO.bind ?_ (fun _ => ?_))
   | exact ih0 _ _ _
   | exact ih1 _ _ _
   | exact ih2 _ _ _ _ _ _ _ _ _ _ _ _ _ _ _ _ _ _
   | exact gangwayref01_Num.mono _ _
   | exact gangwayref09_num.mono _ _ _ _
   | exact LeO.none _
   | refine LeO.ite ?_ ?_
   | refine LeO.bind ?_ (fun _ => ?_)
  ·intro y0 y1 y2 y3 y4 y5 y6 y7 y8 y9 y10 y11 y12 y13 y14 y15 y16 y17
   unfold gangwayref09_Parse.j2
   repeat' first
   | (with_reducible exact ih0 _ _ _)
   | (with_reducible exact ih1 _ _ _)
   | (with_reducible exact ih2 _ _ _ _ _ _ _ _ _ _ _ _ _ _ _ _ _ _)
   | (with_reducible exact gangwayref01_Num.mono _ _)
   | (with_reducible exact gangwayref09_num.mono _ _ _ _)
   | (with_reducible exact LeO.refl _)
   | (with_reducible exact LeO.none _)
   | (with_reducible refine LeO.ite ?_ ?_)
   | (with_reducible refine LeO.bind ?_ (fun _ => ?_))
   | exact ih0 _ _ _
   | exact ih1 _ _ _
   | exact ih2 _ _ _ _ _ _ _ _ _ _ _ _ _ _ _ _ _ _
   | exact gangwayref01_Num.mono _ _
   | exact gangwayref09_num.mono _ _ _ _
   | exact LeO.none _
   | refine LeO.ite ?_ ?_
   | refine LeO.bind ?_ (fun _ => ?_)
theorem gangwayref09_Parse.mono : ∀ a0 k, LeO (gangwayref09_Parse.f k a0) (gangwayref09_Parse.f (k + 1) a0) := by
 intro a0 k
 obtain ⟨ih0, ih1, ih2⟩ := gangwayref09_Parse.mono_l k
 unfold gangwayref09_Parse.f
 repeat' first
   | (with_reducible exact ih0 _ _ _)
   | (with_reducible exact ih1 _ _ _)
   | (with_reducible exact ih2 _ _ _ _ _ _ _ _ _ _ _ _ _ _ _ _ _ _)
   | (with_reducible exact gangwayref01_Num.mono _ _)
   | (with_reducible exact gangwayref09_num.mono _ _ _ _)
   | (with_reducible exact LeO.refl _)
   | (with_reducible exact LeO.none _)
   | (with_reducible refine LeO.ite ?_ ?_)
   | (with_reducible refine LeO.bind ?_ (fun _ => ?_))
   | exact ih0 _ _ _
   | exact ih1 _ _ _
   | exact ih2 _ _ _ _ _ _ _ _ _ _ _ _ _ _ _ _ _ _
   | exact gangwayref01_Num.mono _ _
   | exact gangwayref09_num.mono _ _ _ _
   | exact LeO.none _
   | refine LeO.ite ?_ ?_
   | refine LeO.bind ?_ (fun _ => ?_)
def gangwayref09_Parse.T13 : Bool × List (List Nat × List Nat) := (true, [([], []), ([0], [0]), ([1], [1]), ([], []), ([3], [3]), ([4], [4]), ([], []), ([6], [6]), ([7], [7]), ([], []), ([9, 8], [9]), ([], []), ([11], [11]), ([12, 10], [12]), ([], []), ([14, 13], [14]), ([], []), ([16, 15], [16]), ([], []), ([18, 17], [18]), ([], []), ([20, 19], [20]), ([], []), ([22, 21], [22]), ([2, 5, 8, 10, 13, 15, 17, 19, 21, 23], [2, 5, 8, 10, 13, 15, 17, 19, 21, 23]), ([], []), ([25, 24, 23, 0, 1, 2, 3, 4, 5, 6, 7, 8, 9, 10, 11, 12, 13, 14, 15, 16, 17, 18, 19, 20, 21, 22, 23, 24, 25], [24, 25])])
def gangwayref09_Parse.B13 : List Nat := [0, 1, 3, 0, 8, 24, 0, 64, 192, 0, 960, 0, 2048, 8128, 0, 32704, 0, 131008, 0, 524224, 0, 2097088, 0, 8388544, 16777215, 0, 67108863]
theorem gangwayref09_Parse.tab13 : rtab .any (opsOf Tryd.f14 13) = gangwayref09_Parse.T13 := by kernel_rfl
theorem gangwayref09_Parse.bits13 : waitsOk gangwayref09_Parse.T13.2 gangwayref09_Parse.B13 = true := by kernel_rfl
theorem z21_0 {p : Prop} (h : p := by
 intro w'
 go_simp
 first | with_reducible rfl | (rw [if_neg (by (try simp only [decide_eq_true_eq, ByteArray.size_append, ByteArray.size_extract, eq_iff_iff, iff_true, iff_false, Nat.not_lt] at *); omega)]; try with_reducible rfl)) : p := h
theorem z21_1 {p : Prop} (h : p := by
 rw [if_pos rfl] at H
 simp only [Option.some.injEq, Prod.mk.injEq] at H
 obtain ⟨rfl, rfl, rfl, rfl, rfl, rfl, rfl, rfl, rfl, rfl, rfl, rfl, rfl, rfl, rfl, rfl, rfl⟩ := H
 obtain ⟨hczz0_0, hczz0_1, hczz0_2, hczz0_3, hczz0_4, hczz0_5, hczz0_6, hczz0_7, hczz0_8, hczz0_9, hczz0_10, hczz0_11, hczz0_12, hczz0_13, hczz0_14, hczz0_15⟩ := cells16 BK400.out
 obtain ⟨hfzz0_0, hfzz0_1, hfzz0_2, hfzz0_3, hfzz0_4, hfzz0_5, hfzz0_6, hfzz0_7, hfzz0_8, hfzz0_9, hfzz0_10, hfzz0_11, hfzz0_12, hfzz0_13, hfzz0_14, hfzz0_15⟩ := frozen16 BK400.out
 go_wp2_with (first | ((with_reducible refine gate_st (ty := 24) rfl ?_); refine storeC16 rfl rfl rfl rfl rfl qb1 qo qf rfl ?_) | ((with_reducible refine gate_ld (ty := 24) rfl ?_); (try (with_reducible refine gate_gd rfl ?_; refine gate_guard qc8 ?_; dsimp only)); refine load_st rfl rfl rfl qb1 qo Tryd.underlying24 rfl qf ?_; (try simp only [Act.put, List.setIfInBounds_toArray, List.set_cons_zero, List.set_cons_succ])) | go_in)
 refine bodyPost_ret (results_ct rfl _ _ gb400 24 #[.int .i64 0, .bool false, .bool false, .bool false, .bool false, .bool false, .bool false, .int .i64 0, .int .u64 0, .int .i64 0, .int .u64 0, .int .i64 0, .int .i64 0, .int .i64 0, .int .i64 0, .int .i64 0] (0, 0) _ rfl qdc Tryd.underlying24 rfl qf) rfl ?_
 exact ⟨by first | rfl | (simp [errW_none, errW_some] <;> rfl) | (simp [*, errW_none, errW_some] <;> rfl) | (simp [*, IntKind.wrap_u32]; done) | (simp_all [IntKind.wrap_u32]; done), by repeat (first | (with_reducible first | exact HB.out | apply below_alloc | apply pw_below_drewN | apply below_drew1 | refine below_set ?_ GE400.out) | exact HB.out)⟩) : p := h
theorem z21_2 {p : Prop} (h : p := by
 simp only [Act.put, List.setIfInBounds_toArray, List.set_cons_zero, List.set_cons_succ, i64_w, i32_w]
 rfl) : p := h
theorem z21_3 {p : Prop} (h : p := by
 simp only [putAll, Act.put, List.setIfInBounds_toArray, List.set_cons_zero, List.set_cons_succ]
 rfl) : p := h
theorem z21_4 {p : Prop} (h : p := by
 show Act.put _ (some 6) _ = _
 simp only [Act.put, List.setIfInBounds_toArray, List.set_cons_zero, List.set_cons_succ, i64_w, i32_w]
 rfl) : p := h
theorem z21_5 {p : Prop} (h : p := by
 show Act.put _ (some 50) _ = _
 simp only [Act.put, List.setIfInBounds_toArray, List.set_cons_zero, List.set_cons_succ, i64_w, i32_w]
 rfl) : p := h
theorem z21_6 {p : Prop} (h : p := by
 show Act.put _ (some 52) _ = _
 simp only [Act.put, List.setIfInBounds_toArray, List.set_cons_zero, List.set_cons_succ, i64_w, i32_w]
 rfl) : p := h
theorem z21_7 {p : Prop} (h : p := by
 show Act.put _ (some 55) _ = _
 simp only [Act.put, List.setIfInBounds_toArray, List.set_cons_zero, List.set_cons_succ, i64_w, i32_w]
 rfl) : p := h
theorem z21_8 {p : Prop} (h : p := by
 show Act.put _ (some 57) _ = _
 simp only [Act.put, List.setIfInBounds_toArray, List.set_cons_zero, List.set_cons_succ, i64_w, i32_w]
 rfl) : p := h
theorem z21_9 {p : Prop} (h : p := by
 show Act.put _ (some 59) _ = _
 simp only [Act.put, List.setIfInBounds_toArray, List.set_cons_zero, List.set_cons_succ, i64_w, i32_w]
 rfl) : p := h
theorem z21_10 {p : Prop} (h : p := by
 show Act.put _ (some 61) _ = _
 simp only [Act.put, List.setIfInBounds_toArray, List.set_cons_zero, List.set_cons_succ, i64_w, i32_w]
 rfl) : p := h
theorem z21_11 {p : Prop} (h : p := by
 show Act.put _ (some 63) _ = _
 simp only [Act.put, List.setIfInBounds_toArray, List.set_cons_zero, List.set_cons_succ, i64_w, i32_w]
 rfl) : p := h
theorem z21_12 {p : Prop} (h : p := by
 show Act.put _ (some 65) _ = _
 simp only [Act.put, List.setIfInBounds_toArray, List.set_cons_zero, List.set_cons_succ, i64_w, i32_w]
 rfl) : p := h
set_option maxHeartbeats 8000000 in
set_option maxRecDepth 100000 in
theorem gangwayref09_Parse.calls (k : Nat) (a0 : ByteArray) (r1 : Int) (r2 : Bool) (r3 : Bool) (r4 : Bool) (r5 : Bool) (r6 : Bool) (r7 : Bool) (r8 : Int) (r9 : Int) (r10 : Int) (r11 : Int) (r12 : Int) (r13 : Int) (r14 : Int) (r15 : Int) (r16 : Int) (r17 : Int) (w : World) (h : gangwayref09_Parse.f k a0 = some (r1, r2, r3, r4, r5, r6, r7, r8, r9, r10, r11, r12, r13, r14, r15, r16, r17)) :
  Calls Tryd.prog 14 #[.string a0] w fun e w' => e = .returned (.tuple #[.agg #[.int .i64 r1, .bool r2, .bool r3, .bool r4, .bool r5, .bool r6, .bool r7, .int .i64 r8, .int .u64 r9, .int .i64 r10, .int .u64 r11, .int .i64 r12, .int .i64 r13, .int .i64 r14, .int .i64 r15, .int .i64 r16], .int .i64 r17]) ∧ Below w.heap.size w w' := by
 have hu24 := Tryd.underlying24
 have HB := Aside0.mk (Below.refl w.heap.size w)
 have H : (if (a0.size : Int) < 7 then (some (0, false, false, false, false, false, false, 0, 0, 0, 0, 0, 0, 0, 0, 0, 90)) else (if 0 ≤ 5 then (if 5 ≤ (a0.size : Int) then (if (a0.extract 0 5).toList = ([66, 66, 3, 0, 0] : List UInt8) then ((gangwayref09_num.f k a0 5 7).bind fun t401 => (if t401 = 128 then (some (128, false, false, false, false, false, false, 0, 0, 0, 0, 0, 0, 0, 0, 0, 0)) else (if t401 = 0 then (gangwayref09_Parse.j0 k a0 t401 false) else (gangwayref09_Parse.j0 k a0 t401 (t401 != 514))))) else (some (0, false, false, false, false, false, false, 0, 0, 0, 0, 0, 0, 0, 0, 0, 91))) else (none)) else (none))) = some (r1, r2, r3, r4, r5, r6, r7, r8, r9, r10, r11, r12, r13, r14, r15, r16, r17) := h
 clear h
 by_cases c2 : (a0.size : Int) < 7
 ·rw [if_pos c2] at H
  have c2b0 : decide ((a0.size : Int) < 7) = true := decide_eq_true c2
  have c2b1 : decide (a0.size < 7) = true := decide_eq_true qc
  clear c2
  simp only [Option.some.injEq, Prod.mk.injEq] at H
  obtain ⟨rfl, rfl, rfl, rfl, rfl, rfl, rfl, rfl, rfl, rfl, rfl, rfl, rfl, rfl, rfl, rfl, rfl⟩ := H
  go_enter Tryd.func14, Tryd.ntmps14
  go_wp2_with (first | ((with_reducible refine gate_st (ty := 24) rfl ?_); refine storeC16 rfl rfl rfl rfl rfl qb1 qo qf rfl ?_) | ((with_reducible refine gate_ld (ty := 24) rfl ?_); (try (with_reducible refine gate_gd rfl ?_; refine gate_guard qc8 ?_; dsimp only)); refine load_st rfl rfl rfl qb1 qo Tryd.underlying24 rfl qf ?_; (try simp only [Act.put, List.setIfInBounds_toArray, List.set_cons_zero, List.set_cons_succ])) | ((with_reducible refine gate_dst (N := 2) rfl ?_); (try (refine gate_guard qa ?_; dsimp only)); refine box_event ?hg (N := 2) ?hd (cs := #[.int .i64 0, .bool false, .bool false, .bool false, .bool false, .bool false, .bool false, .int .i64 0, .int .u64 0, .int .i64 0, .int .u64 0, .int .i64 0, .int .i64 0, .int .i64 0, .int .i64 0, .int .i64 0]) (t := 24) ?hr ?_; (case hd => rfl); (case hg => rfl); (case hr => first | (go_simp; done) | (go_simp; rfl)); intro gb400 hg w3 hbox hb; have n0_ := Aside0.mk (below_step qbh hb); have n1_ := Aside0.mk (hbox); have n2_ := Aside0.mk ((qcq : w.heap.size ≤ gb400)); have n3_ := Aside0.mk ((qcq : w.heap.size ≤ gb400)); clear HB; have HB := n0_; have BK400 := n1_; have GW400 := n2_; have GE400 := n3_; clear n0_ n1_ n2_ n3_; clear hb hbox hg; obtain ⟨hcz4_0, hcz4_1, hcz4_2, hcz4_3, hcz4_4, hcz4_5, hcz4_6, hcz4_7, hcz4_8, hcz4_9, hcz4_10, hcz4_11, hcz4_12, hcz4_13, hcz4_14, hcz4_15⟩ := cells16 BK400.out; obtain ⟨hfz4_0, hfz4_1, hfz4_2, hfz4_3, hfz4_4, hfz4_5, hfz4_6, hfz4_7, hfz4_8, hfz4_9, hfz4_10, hfz4_11, hfz4_12, hfz4_13, hfz4_14, hfz4_15⟩ := frozen16 BK400.out))
  refine bodyPost_ret (results_ct rfl _ _ gb400 24 #[.int .i64 0, .bool false, .bool false, .bool false, .bool false, .bool false, .bool false, .int .i64 0, .int .u64 0, .int .i64 0, .int .u64 0, .int .i64 0, .int .i64 0, .int .i64 0, .int .i64 0, .int .i64 0] (0, 0) _ rfl qdc Tryd.underlying24 rfl qf) rfl ?_
  exact ⟨by first | rfl | (simp [errW_none, errW_some] <;> rfl) | (simp [*, errW_none, errW_some] <;> rfl) | (simp [*, IntKind.wrap_u32]; done) | (simp_all [IntKind.wrap_u32]; done), by repeat (first | (with_reducible first | exact HB.out | apply below_alloc | apply pw_below_drewN | apply below_drew1 | refine below_set ?_ GE400.out) | exact HB.out)⟩
 ·rw [if_neg c2] at H
  have c2b0 : decide ((a0.size : Int) < 7) = false := decide_eq_false c2
  have c2b1 : decide (a0.size < 7) = false := decide_eq_false qc
  clear c2
  by_cases c5 : 0 ≤ 5
  ·rw [if_pos c5] at H
   have c5b0 := eq_true c5
   have c5b1 : decide (0 ≤ 5) = true := decide_eq_true c5
   clear c5
   by_cases c6 : 5 ≤ (a0.size : Int)
   ·rw [if_pos c6] at H
    have c6b0 := eq_true c6
    have c6b1 : decide (5 ≤ (a0.size : Int)) = true := decide_eq_true c6
    clear c6
    by_cases c7 : (a0.extract 0 5).toList = ([66, 66, 3, 0, 0] : List UInt8)
    ·rw [if_pos c7] at H
     have c7b0 : ((a0.extract 0 5).toList == ([66, 66, 3, 0, 0] : List UInt8)) = true := beq_iff_eq.mpr c7
     have c7b1 : ((a0.extract 0 5).toList != ([66, 66, 3, 0, 0] : List UInt8)) = false := bne_eq_false_iff_eq.mpr c7
     clear c7
     replace H := Option.bind_eq_some_iff.mp H
     obtain ⟨t401, A80, H⟩ := H
     try dsimp only at H
     have A8 := Aside0.mk A80
     clear A80
     by_cases c9 : t401 = 128
     ·rw [if_pos c9] at H
      have c9b0 : (t401 == 128) = true := beq_iff_eq.mpr c9
      have c9b1 : (t401 != 128) = false := bne_eq_false_iff_eq.mpr c9
      clear c9
      simp only [Option.some.injEq, Prod.mk.injEq] at H
      obtain ⟨rfl, rfl, rfl, rfl, rfl, rfl, rfl, rfl, rfl, rfl, rfl, rfl, rfl, rfl, rfl, rfl, rfl⟩ := H
      go_enter Tryd.func14, Tryd.ntmps14
      go_wp2_with (first | ((with_reducible refine gate_st (ty := 24) rfl ?_); refine storeC16 rfl rfl rfl rfl rfl qb1 qo qf rfl ?_) | ((with_reducible refine gate_ld (ty := 24) rfl ?_); (try (with_reducible refine gate_gd rfl ?_; refine gate_guard qc8 ?_; dsimp only)); refine load_st rfl rfl rfl qb1 qo Tryd.underlying24 rfl qf ?_; (try simp only [Act.put, List.setIfInBounds_toArray, List.set_cons_zero, List.set_cons_succ])) | ((with_reducible refine gate_dst (N := 2) rfl ?_); (try (refine gate_guard qa ?_; dsimp only)); refine box_event ?hg (N := 2) ?hd (cs := #[.int .i64 0, .bool false, .bool false, .bool false, .bool false, .bool false, .bool false, .int .i64 0, .int .u64 0, .int .i64 0, .int .u64 0, .int .i64 0, .int .i64 0, .int .i64 0, .int .i64 0, .int .i64 0]) (t := 24) ?hr ?_; (case hd => rfl); (case hg => rfl); (case hr => first | (go_simp; done) | (go_simp; rfl)); intro gb400 hg w10 hbox hb; have n0_ := Aside0.mk (below_step qbh hb); have n1_ := Aside0.mk (hbox); have n2_ := Aside0.mk ((qcq : w.heap.size ≤ gb400)); have n3_ := Aside0.mk ((qcq : w.heap.size ≤ gb400)); clear HB; have HB := n0_; have BK400 := n1_; have GW400 := n2_; have GE400 := n3_; clear n0_ n1_ n2_ n3_; clear hb hbox hg) | ((with_reducible refine gate_callee (f := 29) rfl ?_); refine goesL_ (some 16) rfl rfl Tryd.func29 qf rfl #[.string a0, .int .i64 5, .int .i64 7] rfl qbi ?_; (with_reducible refine (gangwayref09_num.calls k a0 5 7 t401 _ A8.out).mono ?_); rintro e w' ⟨rfl, ⟨nd, rfl⟩⟩; refine ⟨_, rfl, ?_⟩; (try (rw [drewN_self w10]; generalize hq_ : World.drewN w10 _ = w10; have n0_ : Aside0 (w10.heap[gb400]? = some (.cells #[.int .i64 0, .bool false, .bool false, .bool false, .bool false, .bool false, .bool false, .int .i64 0, .int .u64 0, .int .i64 0, .int .u64 0, .int .i64 0, .int .i64 0, .int .i64 0, .int .i64 0, .int .i64 0] 24 (0, 0))) := ⟨by rw [← hq_]; exact qr⟩; have n1_ : Aside0 (Below w.heap.size w w10) := ⟨by rw [← hq_]; exact qbk⟩; clear BK400 HB hq_; have BK400 := n0_; have HB := n1_; clear n0_ n1_)); obtain ⟨hcz11_0, hcz11_1, hcz11_2, hcz11_3, hcz11_4, hcz11_5, hcz11_6, hcz11_7, hcz11_8, hcz11_9, hcz11_10, hcz11_11, hcz11_12, hcz11_13, hcz11_14, hcz11_15⟩ := cells16 BK400.out; obtain ⟨hfz11_0, hfz11_1, hfz11_2, hfz11_3, hfz11_4, hfz11_5, hfz11_6, hfz11_7, hfz11_8, hfz11_9, hfz11_10, hfz11_11, hfz11_12, hfz11_13, hfz11_14, hfz11_15⟩ := frozen16 BK400.out))
      refine bodyPost_ret (results_ct rfl _ _ gb400 24 #[.int .i64 128, .bool false, .bool false, .bool false, .bool false, .bool false, .bool false, .int .i64 0, .int .u64 0, .int .i64 0, .int .u64 0, .int .i64 0, .int .i64 0, .int .i64 0, .int .i64 0, .int .i64 0] (0, 0) _ rfl qdc Tryd.underlying24 rfl qf) rfl ?_
      exact ⟨by first | rfl | (simp [errW_none, errW_some] <;> rfl) | (simp [*, errW_none, errW_some] <;> rfl) | (simp [*, IntKind.wrap_u32]; done) | (simp_all [IntKind.wrap_u32]; done), by repeat (first | (with_reducible first | exact HB.out | apply below_alloc | apply pw_below_drewN | apply below_drew1 | refine below_set ?_ GE400.out) | exact HB.out)⟩
     ·rw [if_neg c9] at H
      have c9b0 : (t401 == 128) = false := beq_eq_false_iff_ne.mpr c9
      have c9b1 : (t401 != 128) = true := bne_iff_ne.mpr c9
      have HC12 := Aside0.mk H
      clear H
      go_enter Tryd.func14, Tryd.ntmps14
      go_upto_region 8 with (first | ((with_reducible refine gate_st (ty := 24) rfl ?_); refine storeC16 rfl rfl rfl rfl rfl qb1 qo qf rfl ?_) | ((with_reducible refine gate_ld (ty := 24) rfl ?_); (try (with_reducible refine gate_gd rfl ?_; refine gate_guard qc8 ?_; dsimp only)); refine load_st rfl rfl rfl qb1 qo Tryd.underlying24 rfl qf ?_; (try simp only [Act.put, List.setIfInBounds_toArray, List.set_cons_zero, List.set_cons_succ])) | ((with_reducible refine gate_dst (N := 2) rfl ?_); (try (refine gate_guard qa ?_; dsimp only)); refine box_event ?hg (N := 2) ?hd (cs := #[.int .i64 0, .bool false, .bool false, .bool false, .bool false, .bool false, .bool false, .int .i64 0, .int .u64 0, .int .i64 0, .int .u64 0, .int .i64 0, .int .i64 0, .int .i64 0, .int .i64 0, .int .i64 0]) (t := 24) ?hr ?_; (case hd => rfl); (case hg => rfl); (case hr => first | (go_simp; done) | (go_simp; rfl)); intro gb400 hg w13 hbox hb; have n0_ := Aside0.mk (below_step qbh hb); have n1_ := Aside0.mk (hbox); have n2_ := Aside0.mk ((qcq : w.heap.size ≤ gb400)); have n3_ := Aside0.mk ((qcq : w.heap.size ≤ gb400)); clear HB; have HB := n0_; have BK400 := n1_; have GW400 := n2_; have GE400 := n3_; clear n0_ n1_ n2_ n3_; clear hb hbox hg) | ((with_reducible refine gate_callee (f := 29) rfl ?_); refine goesL_ (some 16) rfl rfl Tryd.func29 qf rfl #[.string a0, .int .i64 5, .int .i64 7] rfl qbi ?_; (with_reducible refine (gangwayref09_num.calls k a0 5 7 t401 _ A8.out).mono ?_); rintro e w' ⟨rfl, ⟨nd, rfl⟩⟩; refine ⟨_, rfl, ?_⟩))
      (try simp only [Act.put, List.setIfInBounds_toArray, List.set_cons_zero, List.set_cons_succ])
      go_cut [25] (fun v25 wc => ∃ (kq : Nat) (x25_11 : Bool), v25 = .bool x25_11 ∧ Aside0 (gangwayref09_Parse.j0 kq a0 t401 x25_11 = some (r1, r2, r3, r4, r5, r6, r7, r8, r9, r10, r11, r12, r13, r14, r15, r16, r17)) ∧ Aside0 (kq ≤ k) ∧ Aside0 (wc.heap[gb400]? = some (.cells #[.int .i64 0, .bool false, .bool false, .bool false, .bool false, .bool false, .bool false, .int .i64 0, .int .u64 0, .int .i64 0, .int .u64 0, .int .i64 0, .int .i64 0, .int .i64 0, .int .i64 0, .int .i64 0] 24 (0, 0))) ∧ Aside0 (Below w.heap.size w wc))
      case first =>
       have H := HC12.out
       clear HC12
       by_cases c14 : t401 = 0
       ·rw [if_pos c14] at H
        have c14b0 : (t401 == 0) = true := beq_iff_eq.mpr c14
        have c14b1 : (t401 != 0) = false := bne_eq_false_iff_eq.mpr c14
        clear c14
        (first | rw [c14b0] | (simp only [i64_w, i32_w]; rw [c14b0]) | skip)
        have H' := Aside0.mk H
        clear H
        go_wp2_with (first | ((with_reducible refine gate_st (ty := 24) rfl ?_); refine storeC16 rfl rfl rfl rfl rfl qb1 qo qf rfl ?_) | ((with_reducible refine gate_ld (ty := 24) rfl ?_); (try (with_reducible refine gate_gd rfl ?_; refine gate_guard qc8 ?_; dsimp only)); refine load_st rfl rfl rfl qb1 qo Tryd.underlying24 rfl qf ?_; (try simp only [Act.put, List.setIfInBounds_toArray, List.set_cons_zero, List.set_cons_succ])) | go_in)
        go_meet
        case rel => exact ⟨_, (false), qk, H', ⟨by first | omega | exact Nat.le_refl _⟩, ⟨by (with_reducible repeat (first | refine blk_drewN ?_ _ | refine blk_drew ?_ | refine blk_alloc ?_ _)); exact BK400.out⟩, ⟨by repeat (first | (with_reducible first | exact HB.out | apply below_alloc | apply pw_below_drewN | apply below_drew1 | refine below_set ?_ GE400.out) | exact HB.out)⟩⟩
       ·rw [if_neg c14] at H
        have c14b0 : (t401 == 0) = false := beq_eq_false_iff_ne.mpr c14
        have c14b1 : (t401 != 0) = true := bne_iff_ne.mpr c14
        (first | rw [c14b0] | (simp only [i64_w, i32_w]; rw [c14b0]) | skip)
        have H' := Aside0.mk H
        clear H
        go_wp2_with (first | ((with_reducible refine gate_st (ty := 24) rfl ?_); refine storeC16 rfl rfl rfl rfl rfl qb1 qo qf rfl ?_) | ((with_reducible refine gate_ld (ty := 24) rfl ?_); (try (with_reducible refine gate_gd rfl ?_; refine gate_guard qc8 ?_; dsimp only)); refine load_st rfl rfl rfl qb1 qo Tryd.underlying24 rfl qf ?_; (try simp only [Act.put, List.setIfInBounds_toArray, List.set_cons_zero, List.set_cons_succ])) | go_in)
        go_meet
        case rel => exact ⟨_, ((t401 != 514)), qk, H', ⟨by first | omega | exact Nat.le_refl _⟩, ⟨by (with_reducible repeat (first | refine blk_drewN ?_ _ | refine blk_drew ?_ | refine blk_alloc ?_ _)); exact BK400.out⟩, ⟨by repeat (first | (with_reducible first | exact HB.out | apply below_alloc | apply pw_below_drewN | apply below_drew1 | refine below_set ?_ GE400.out) | exact HB.out)⟩⟩
      case rest =>
       clear HC12
       try clear c1
       try clear c2
       try clear c2b0
       try clear c2b1
       try clear p2
       try clear c5
       try clear c5b0
       try clear c5b1
       try clear c6
       try clear c6b0
       try clear c6b1
       try clear c7
       try clear c7b0
       try clear c7b1
       try clear c9
       try clear c9b0
       try clear c9b1
       try clear c14
       try clear c14b0
       try clear c14b1
       obtain ⟨kq, x25_11, rfl, HA, HJ11, BK400, HB⟩ := hcut
       cases kq with
       | zero => exact absurd HA.out (by simp [gangwayref09_Parse.j0])
       | succ kj11 =>
        have H := HA.out
        clear HA
        simp only [gangwayref09_Parse.j0] at H
        by_cases c15 : x25_11 = true
        ·subst c15
         exact z21_1
        ·replace c15 := Bool.eq_false_iff.mpr c15
         subst c15
         rw [if_neg (show ¬ (false = true) by decide)] at H
         have HC17 := Aside0.mk H
         clear H
         go_upto_region 10 with (fail)
         go_cut [38] (fun v38 wc => ∃ (kq : Nat) (x38_16 : Bool), v38 = .bool x38_16 ∧ Aside0 (gangwayref09_Parse.j1 kq a0 t401 x38_16 = some (r1, r2, r3, r4, r5, r6, r7, r8, r9, r10, r11, r12, r13, r14, r15, r16, r17)) ∧ Aside0 (kq ≤ kj11) ∧ Aside0 (wc.heap[gb400]? = some (.cells #[.int .i64 0, .bool false, .bool false, .bool false, .bool false, .bool false, .bool false, .int .i64 0, .int .u64 0, .int .i64 0, .int .u64 0, .int .i64 0, .int .i64 0, .int .i64 0, .int .i64 0, .int .i64 0] 24 (0, 0))) ∧ Aside0 (Below w.heap.size w wc))
         case first =>
          have H := HC17.out
          clear HC17
          by_cases c18 : (a0.size : Int) < 38
          ·rw [if_pos c18] at H
           have c18b0 : decide ((a0.size : Int) < 38) = true := decide_eq_true c18
           have c18b1 : decide (a0.size < 38) = true := decide_eq_true qc
           clear c18
           (first | rw [c18b0] | (simp only [i64_w, i32_w]; rw [c18b0]) | skip)
           have H' := Aside0.mk H
           clear H
           go_wp2_with (first | ((with_reducible refine gate_st (ty := 24) rfl ?_); refine storeC16 rfl rfl rfl rfl rfl qb1 qo qf rfl ?_) | ((with_reducible refine gate_ld (ty := 24) rfl ?_); (try (with_reducible refine gate_gd rfl ?_; refine gate_guard qc8 ?_; dsimp only)); refine load_st rfl rfl rfl qb1 qo Tryd.underlying24 rfl qf ?_; (try simp only [Act.put, List.setIfInBounds_toArray, List.set_cons_zero, List.set_cons_succ])) | go_in)
           go_meet
           case rel => exact ⟨_, (true), qk, H', ⟨by have := HJ11.out; first | omega | exact Nat.le_refl _⟩, ⟨by (with_reducible repeat (first | refine blk_drewN ?_ _ | refine blk_drew ?_ | refine blk_alloc ?_ _)); exact BK400.out⟩, ⟨by repeat (first | (with_reducible first | exact HB.out | apply below_alloc | apply pw_below_drewN | apply below_drew1 | refine below_set ?_ GE400.out) | exact HB.out)⟩⟩
          ·rw [if_neg c18] at H
           have c18b0 : decide ((a0.size : Int) < 38) = false := decide_eq_false c18
           have c18b1 : decide (a0.size < 38) = false := decide_eq_false qc
           clear c18
           (first | rw [c18b0] | (simp only [i64_w, i32_w]; rw [c18b0]) | skip)
           by_cases c19 : t401 = 0
           ·rw [if_pos c19] at H
            have c19b0 : (t401 == 0) = true := beq_iff_eq.mpr c19
            have c19b1 : (t401 != 0) = false := bne_eq_false_iff_eq.mpr c19
            clear c19
            have H' := Aside0.mk H
            clear H
            go_wp2_with (first | ((with_reducible refine gate_st (ty := 24) rfl ?_); refine storeC16 rfl rfl rfl rfl rfl qb1 qo qf rfl ?_) | ((with_reducible refine gate_ld (ty := 24) rfl ?_); (try (with_reducible refine gate_gd rfl ?_; refine gate_guard qc8 ?_; dsimp only)); refine load_st rfl rfl rfl qb1 qo Tryd.underlying24 rfl qf ?_; (try simp only [Act.put, List.setIfInBounds_toArray, List.set_cons_zero, List.set_cons_succ])) | go_in)
            go_meet
            case rel => exact ⟨_, (false), qk, H', ⟨by have := HJ11.out; first | omega | exact Nat.le_refl _⟩, ⟨by (with_reducible repeat (first | refine blk_drewN ?_ _ | refine blk_drew ?_ | refine blk_alloc ?_ _)); exact BK400.out⟩, ⟨by repeat (first | (with_reducible first | exact HB.out | apply below_alloc | apply pw_below_drewN | apply below_drew1 | refine below_set ?_ GE400.out) | exact HB.out)⟩⟩
           ·rw [if_neg c19] at H
            have c19b0 : (t401 == 0) = false := beq_eq_false_iff_ne.mpr c19
            have c19b1 : (t401 != 0) = true := bne_iff_ne.mpr c19
            have H' := Aside0.mk H
            clear H
            go_wp2_with (first | ((with_reducible refine gate_st (ty := 24) rfl ?_); refine storeC16 rfl rfl rfl rfl rfl qb1 qo qf rfl ?_) | ((with_reducible refine gate_ld (ty := 24) rfl ?_); (try (with_reducible refine gate_gd rfl ?_; refine gate_guard qc8 ?_; dsimp only)); refine load_st rfl rfl rfl qb1 qo Tryd.underlying24 rfl qf ?_; (try simp only [Act.put, List.setIfInBounds_toArray, List.set_cons_zero, List.set_cons_succ])) | go_in)
            go_meet
            case rel => exact ⟨_, (decide ((a0.size : Int) < 39)), qk, H', ⟨by have := HJ11.out; first | omega | exact Nat.le_refl _⟩, ⟨by (with_reducible repeat (first | refine blk_drewN ?_ _ | refine blk_drew ?_ | refine blk_alloc ?_ _)); exact BK400.out⟩, ⟨by repeat (first | (with_reducible first | exact HB.out | apply below_alloc | apply pw_below_drewN | apply below_drew1 | refine below_set ?_ GE400.out) | exact HB.out)⟩⟩
         case rest =>
          clear HC17
          try clear c1
          try clear c2
          try clear c2b0
          try clear c2b1
          try clear p2
          try clear c5
          try clear c5b0
          try clear c5b1
          try clear c6
          try clear c6b0
          try clear c6b1
          try clear c7
          try clear c7b0
          try clear c7b1
          try clear c9
          try clear c9b0
          try clear c9b1
          try clear c14
          try clear c14b0
          try clear c14b1
          try clear c15
          try clear c18
          try clear c18b0
          try clear c18b1
          try clear c19
          try clear c19b0
          try clear c19b1
          try clear p2
          obtain ⟨kq, x38_16, rfl, HA, HJ16, BK400, HB⟩ := hcut
          cases kq with
          | zero => exact absurd HA.out (by simp [gangwayref09_Parse.j1])
          | succ kj16 =>
           have H := HA.out
           clear HA
           simp only [gangwayref09_Parse.j1] at H
           by_cases c20 : x38_16 = true
           ·subst c20
            exact z21_1
           ·replace c20 := Bool.eq_false_iff.mpr c20
            subst c20
            rw [if_neg (show ¬ (false = true) by decide)] at H
            replace H := Option.bind_eq_some_iff.mp H
            obtain ⟨t402, A220, H⟩ := H
            try dsimp only at H
            have A22 := Aside0.mk A220
            clear A220
            by_cases c23 : 8 ≤ 16
            ·rw [if_pos c23] at H
             have c23b0 := eq_true c23
             have c23b1 : decide (8 ≤ 16) = true := decide_eq_true c23
             clear c23
             by_cases c24 : 16 ≤ (a0.size : Int)
             ·rw [if_pos c24] at H
              have c24b0 := eq_true c24
              have c24b1 : decide (16 ≤ (a0.size : Int)) = true := decide_eq_true c24
              clear c24
              replace H := Option.bind_eq_some_iff.mp H
              obtain ⟨t403, A250, H⟩ := H
              try dsimp only at H
              have A25 := Aside0.mk A250
              clear A250
              replace H := Option.bind_eq_some_iff.mp H
              obtain ⟨t404, A260, H⟩ := H
              try dsimp only at H
              have A26 := Aside0.mk A260
              clear A260
              by_cases c27 : 20 ≤ 28
              ·rw [if_pos c27] at H
               have c27b0 := eq_true c27
               have c27b1 : decide (20 ≤ 28) = true := decide_eq_true c27
               clear c27
               by_cases c28 : 28 ≤ (a0.size : Int)
               ·rw [if_pos c28] at H
                have c28b0 := eq_true c28
                have c28b1 : decide (28 ≤ (a0.size : Int)) = true := decide_eq_true c28
                clear c28
                replace H := Option.bind_eq_some_iff.mp H
                obtain ⟨t405, A290, H⟩ := H
                try dsimp only at H
                have A29 := Aside0.mk A290
                clear A290
                replace H := Option.bind_eq_some_iff.mp H
                obtain ⟨t406, A300, H⟩ := H
                try dsimp only at H
                have A30 := Aside0.mk A300
                clear A300
                replace H := Option.bind_eq_some_iff.mp H
                obtain ⟨t407, A310, H⟩ := H
                try dsimp only at H
                have A31 := Aside0.mk A310
                clear A310
                replace H := Option.bind_eq_some_iff.mp H
                obtain ⟨t408, A320, H⟩ := H
                try dsimp only at H
                have A32 := Aside0.mk A320
                clear A320
                replace H := Option.bind_eq_some_iff.mp H
                obtain ⟨t409, A330, H⟩ := H
                try dsimp only at H
                have A33 := Aside0.mk A330
                clear A330
                replace H := Option.bind_eq_some_iff.mp H
                obtain ⟨t410, A340, H⟩ := H
                try dsimp only at H
                have A34 := Aside0.mk A340
                clear A340
                have HC35 := Aside0.mk H
                clear H
                try go_wp2_with (first | ((with_reducible refine gate_st (ty := 24) rfl ?_); refine storeC16 rfl rfl rfl rfl rfl qb1 qo qf rfl ?_) | ((with_reducible refine gate_ld (ty := 24) rfl ?_); (try (with_reducible refine gate_gd rfl ?_; refine gate_guard qc8 ?_; dsimp only)); refine load_st rfl rfl rfl qb1 qo Tryd.underlying24 rfl qf ?_; (try simp only [Act.put, List.setIfInBounds_toArray, List.set_cons_zero, List.set_cons_succ])) | ((with_reducible refine gate_callee (f := 29) rfl ?_); refine goesL_ (some 41) rfl rfl Tryd.func29 qf rfl #[.string a0, .int .i64 7, .int .i64 8] rfl qbi ?_; (with_reducible refine (gangwayref09_num.calls kj16 a0 7 8 t402 _ A22.out).mono ?_); rintro e w' ⟨rfl, ⟨nd, rfl⟩⟩; refine ⟨_, rfl, ?_⟩; (try (rw [drewN_self wc]; generalize hq_ : World.drewN wc _ = wc; have n0_ : Aside0 (wc.heap[gb400]? = some (.cells #[.int .i64 0, .bool false, .bool false, .bool false, .bool false, .bool false, .bool false, .int .i64 0, .int .u64 0, .int .i64 0, .int .u64 0, .int .i64 0, .int .i64 0, .int .i64 0, .int .i64 0, .int .i64 0] 24 (0, 0))) := ⟨by rw [← hq_]; exact qr⟩; have n1_ : Aside0 (Below w.heap.size w wc) := ⟨by rw [← hq_]; exact qbk⟩; clear BK400 HB hq_; have BK400 := n0_; have HB := n1_; clear n0_ n1_))))
                have n0_ := Aside0.mk (blk_drew BK400.out)
                have n1_ := Aside0.mk (below_drew1 HB.out)
                clear BK400
                clear HB
                have BK400 := n0_
                have HB := n1_
                clear n0_ n1_
                refine start_ (n := 27) (S := fun w' => True) (ds := []) #[false, false, false, false, false, false, false, false, false, false, false, false, false, false, false, false, false, false, false, false, false, false, false, false, false, false, false] qf rfl rfl trivial (fun hHeld => ?_); refine with_tabW gangwayref09_Parse.tab13 gangwayref09_Parse.bits13 (fun HT_ HW_ => ?_)
                generalize wc.drew = w36 at BK400 HB hHeld ⊢
                refine pure_ (i := 0) (N := some 42) (v := ?_) (a' := ?_) #[true, false, false, false, false, false, false, false, false, false, false, false, false, false, false, false, false, false, false, false, false, false, false, false, false, false, false] rfl rfl (any_of HT_.out qf) (fun _ _ _ h => h) (Or.inl ⟨by rfl, ?_⟩) ?_ ?_
                rotate_left
                ·exact z21_0
                rotate_left
                ·exact z21_2
                refine pure_ (i := 1) (N := some 43) (v := ?_) (a' := ?_) #[true, true, false, false, false, false, false, false, false, false, false, false, false, false, false, false, false, false, false, false, false, false, false, false, false, false, false] rfl rfl (any_of HT_.out qf) (fun _ _ _ h => h) (Or.inl ⟨by rfl, ?_⟩) ?_ ?_
                rotate_left
                ·exact z21_0
                rotate_left
                ·exact z21_2
                refine pure_ (i := 2) (N := some 44) (v := ?_) (a' := ?_) #[true, true, true, false, false, false, false, false, false, false, false, false, false, false, false, false, false, false, false, false, false, false, false, false, false, false, false] rfl rfl (any_of HT_.out qf) (fun _ _ _ h => h) (Or.inl ⟨by rfl, ?_⟩) ?_ ?_
                rotate_left
                ·exact z21_0
                rotate_left
                ·exact z21_2
                refine pure_ (i := 3) (N := some 45) (v := ?_) (a' := ?_) #[true, true, true, true, false, false, false, false, false, false, false, false, false, false, false, false, false, false, false, false, false, false, false, false, false, false, false] rfl rfl (any_of HT_.out qf) (fun _ _ _ h => h) (Or.inl ⟨by rfl, ?_⟩) ?_ ?_
                rotate_left
                ·exact z21_0
                rotate_left
                ·exact z21_2
                refine pure_ (i := 4) (N := some 46) (v := ?_) (a' := ?_) #[true, true, true, true, true, false, false, false, false, false, false, false, false, false, false, false, false, false, false, false, false, false, false, false, false, false, false] rfl rfl (any_of HT_.out qf) (fun _ _ _ h => h) (Or.inl ⟨by rfl, ?_⟩) ?_ ?_
                rotate_left
                ·exact z21_0
                rotate_left
                ·exact z21_2
                refine pure_ (i := 5) (N := some 47) (v := ?_) (a' := ?_) #[true, true, true, true, true, true, false, false, false, false, false, false, false, false, false, false, false, false, false, false, false, false, false, false, false, false, false] rfl rfl (any_of HT_.out qf) (fun _ _ _ h => h) (Or.inl ⟨by rfl, ?_⟩) ?_ ?_
                rotate_left
                ·exact z21_0
                rotate_left
                ·exact z21_2
                refine pure_ (i := 6) (N := some 48) (v := ?_) (a' := ?_) #[true, true, true, true, true, true, true, false, false, false, false, false, false, false, false, false, false, false, false, false, false, false, false, false, false, false, false] rfl rfl (any_of HT_.out qf) (fun _ _ _ h => h) (Or.inl ⟨by rfl, ?_⟩) ?_ ?_
                rotate_left
                ·exact z21_0
                rotate_left
                ·exact z21_2
                refine pure_ (i := 7) (N := some 49) (v := ?_) (a' := ?_) #[true, true, true, true, true, true, true, true, false, false, false, false, false, false, false, false, false, false, false, false, false, false, false, false, false, false, false] rfl rfl (any_of HT_.out qf) (fun _ _ _ h => h) (Or.inl ⟨by rfl, ?_⟩) ?_ ?_
                rotate_left
                ·exact z21_0
                rotate_left
                ·exact z21_2
                refine pure_ (i := 9) (N := some 51) (v := ?_) (a' := ?_) #[true, true, true, true, true, true, true, true, false, true, false, false, false, false, false, false, false, false, false, false, false, false, false, false, false, false, false] rfl rfl (any_of HT_.out qf) (fun _ _ _ h => h) (Or.inl ⟨by rfl, ?_⟩) ?_ ?_
                rotate_left
                ·exact z21_0
                rotate_left
                ·exact z21_2
                refine pure_ (i := 11) (N := some 53) (v := ?_) (a' := ?_) #[true, true, true, true, true, true, true, true, false, true, false, true, false, false, false, false, false, false, false, false, false, false, false, false, false, false, false] rfl rfl (any_of HT_.out qf) (fun _ _ _ h => h) (Or.inl ⟨by rfl, ?_⟩) ?_ ?_
                rotate_left
                ·exact z21_0
                rotate_left
                ·exact z21_2
                refine pure_ (i := 12) (N := some 54) (v := ?_) (a' := ?_) #[true, true, true, true, true, true, true, true, false, true, false, true, true, false, false, false, false, false, false, false, false, false, false, false, false, false, false] rfl rfl (any_of HT_.out qf) (fun _ _ _ h => h) (Or.inl ⟨by rfl, ?_⟩) ?_ ?_
                rotate_left
                ·exact z21_0
                rotate_left
                ·exact z21_2
                refine pure_ (i := 14) (N := some 56) (v := ?_) (a' := ?_) #[true, true, true, true, true, true, true, true, false, true, false, true, true, false, true, false, false, false, false, false, false, false, false, false, false, false, false] rfl rfl (any_of HT_.out qf) (fun _ _ _ h => h) (Or.inl ⟨by rfl, ?_⟩) ?_ ?_
                rotate_left
                ·exact z21_0
                rotate_left
                ·exact z21_2
                refine pure_ (i := 16) (N := some 58) (v := ?_) (a' := ?_) #[true, true, true, true, true, true, true, true, false, true, false, true, true, false, true, false, true, false, false, false, false, false, false, false, false, false, false] rfl rfl (any_of HT_.out qf) (fun _ _ _ h => h) (Or.inl ⟨by rfl, ?_⟩) ?_ ?_
                rotate_left
                ·exact z21_0
                rotate_left
                ·exact z21_2
                refine pure_ (i := 18) (N := some 60) (v := ?_) (a' := ?_) #[true, true, true, true, true, true, true, true, false, true, false, true, true, false, true, false, true, false, true, false, false, false, false, false, false, false, false] rfl rfl (any_of HT_.out qf) (fun _ _ _ h => h) (Or.inl ⟨by rfl, ?_⟩) ?_ ?_
                rotate_left
                ·exact z21_0
                rotate_left
                ·exact z21_2
                refine pure_ (i := 20) (N := some 62) (v := ?_) (a' := ?_) #[true, true, true, true, true, true, true, true, false, true, false, true, true, false, true, false, true, false, true, false, true, false, false, false, false, false, false] rfl rfl (any_of HT_.out qf) (fun _ _ _ h => h) (Or.inl ⟨by rfl, ?_⟩) ?_ ?_
                rotate_left
                ·exact z21_0
                rotate_left
                ·exact z21_2
                refine pure_ (i := 22) (N := some 64) (v := ?_) (a' := ?_) #[true, true, true, true, true, true, true, true, false, true, false, true, true, false, true, false, true, false, true, false, true, false, true, false, false, false, false] rfl rfl (any_of HT_.out qf) (fun _ _ _ h => h) (Or.inl ⟨by rfl, ?_⟩) ?_ ?_
                rotate_left
                ·exact z21_0
                rotate_left
                ·exact z21_2
                refine join_ (σ := Nat) 1 #[true, true, true, true, true, true, true, true, true, true, true, true, true, true, true, true, true, true, true, true, true, true, true, true, true, true, false] (fun s_ => [(50, .int .u64 t403), (52, .int .i64 t404), (55, .int .u64 t405), (57, .int .i64 t406), (59, .int .i64 t407), (61, .int .i64 t408), (63, .int .i64 t409), (65, .int .i64 t410), (6, .pointer (some ⟨s_, 0, none⟩)), (66, .agg #[.int .i64 0, .bool ((Int.tmod t402 2) == 1), .bool false, .bool false, .bool false, .bool false, .bool ((wrap64 (Int.tdiv t402 128)) == 1), .int .i64 0, .int .u64 t403, .int .i64 t404, .int .u64 t405, .int .i64 t406, .int .i64 t407, .int .i64 t408, .int .i64 t409, .int .i64 t410])]) (fun s_ w' => (w'.heap[gb400]? = some (.cells #[.int .i64 0, .bool false, .bool false, .bool false, .bool false, .bool false, .bool false, .int .i64 0, .int .u64 0, .int .i64 0, .int .u64 0, .int .i64 0, .int .i64 0, .int .i64 0, .int .i64 0, .int .i64 0] 24 (0, 0))) ∧ (w'.heap[s_]? = some (.cells #[.int .i64 0, .bool false, .bool false, .bool false, .bool false, .bool false, .bool false, .int .i64 0, .int .u64 0, .int .i64 0, .int .u64 0, .int .i64 0, .int .i64 0, .int .i64 0, .int .i64 0, .int .i64 0] 24 (0, 0))) ∧ (w.heap.size ≤ s_) ∧ (w.heap.size ≤ s_) ∧ (gb400 ≠ s_) ∧ (s_ ≠ gb400) ∧ (Below w.heap.size w w')) ?_ ?_
                rotate_left
                ·intro hJ8_10_13_15_17_19_21_23_25
                 refine join_ (σ := Unit) 2 #[true, true, true, true, true, true, true, true, true, true, true, true, true, true, true, true, true, true, true, true, true, true, true, true, true, false, false] (fun s_ => [(50, .int .u64 t403), (52, .int .i64 t404), (55, .int .u64 t405), (57, .int .i64 t406), (59, .int .i64 t407), (61, .int .i64 t408), (63, .int .i64 t409), (65, .int .i64 t410), (66, .agg #[.int .i64 0, .bool ((Int.tmod t402 2) == 1), .bool false, .bool false, .bool false, .bool false, .bool ((wrap64 (Int.tdiv t402 128)) == 1), .int .i64 0, .int .u64 t403, .int .i64 t404, .int .u64 t405, .int .i64 t406, .int .i64 t407, .int .i64 t408, .int .i64 t409, .int .i64 t410])]) (fun s_ w' => (w'.heap[gb400]? = some (.cells #[.int .i64 0, .bool false, .bool false, .bool false, .bool false, .bool false, .bool false, .int .i64 0, .int .u64 0, .int .i64 0, .int .u64 0, .int .i64 0, .int .i64 0, .int .i64 0, .int .i64 0, .int .i64 0] 24 (0, 0))) ∧ (Below w.heap.size w w')) ?_ ?_
                 rotate_left
                 ·intro hJ8_10_13_15_17_19_21_23
                  refine join_ (σ := Nat) 3 #[true, true, true, true, true, true, true, true, true, true, true, true, true, true, true, true, true, true, true, true, true, true, true, false, false, true, false] (fun s_ => [(50, .int .u64 t403), (52, .int .i64 t404), (55, .int .u64 t405), (57, .int .i64 t406), (59, .int .i64 t407), (61, .int .i64 t408), (63, .int .i64 t409), (6, .pointer (some ⟨s_, 0, none⟩))]) (fun s_ w' => (w'.heap[gb400]? = some (.cells #[.int .i64 0, .bool false, .bool false, .bool false, .bool false, .bool false, .bool false, .int .i64 0, .int .u64 0, .int .i64 0, .int .u64 0, .int .i64 0, .int .i64 0, .int .i64 0, .int .i64 0, .int .i64 0] 24 (0, 0))) ∧ (w'.heap[s_]? = some (.cells #[.int .i64 0, .bool false, .bool false, .bool false, .bool false, .bool false, .bool false, .int .i64 0, .int .u64 0, .int .i64 0, .int .u64 0, .int .i64 0, .int .i64 0, .int .i64 0, .int .i64 0, .int .i64 0] 24 (0, 0))) ∧ (w.heap.size ≤ s_) ∧ (w.heap.size ≤ s_) ∧ (gb400 ≠ s_) ∧ (s_ ≠ gb400) ∧ (Below w.heap.size w w')) ?_ ?_
                  rotate_left
                  ·intro hJ8_10_13_15_17_19_21_25
                   refine join_ (σ := Unit) 4 #[true, true, true, true, true, true, true, true, true, true, true, true, true, true, true, true, true, true, true, true, true, true, true, false, false, false, false] (fun s_ => [(50, .int .u64 t403), (52, .int .i64 t404), (55, .int .u64 t405), (57, .int .i64 t406), (59, .int .i64 t407), (61, .int .i64 t408), (63, .int .i64 t409)]) (fun s_ w' => (w'.heap[gb400]? = some (.cells #[.int .i64 0, .bool false, .bool false, .bool false, .bool false, .bool false, .bool false, .int .i64 0, .int .u64 0, .int .i64 0, .int .u64 0, .int .i64 0, .int .i64 0, .int .i64 0, .int .i64 0, .int .i64 0] 24 (0, 0))) ∧ (Below w.heap.size w w')) ?_ ?_
                   rotate_left
                   ·intro hJ8_10_13_15_17_19_21
                    refine join_ (σ := Nat) 4 #[true, true, true, true, true, true, true, true, true, true, true, true, true, true, true, true, true, true, true, true, true, false, true, false, false, true, false] (fun s_ => [(50, .int .u64 t403), (52, .int .i64 t404), (55, .int .u64 t405), (57, .int .i64 t406), (59, .int .i64 t407), (61, .int .i64 t408), (6, .pointer (some ⟨s_, 0, none⟩))]) (fun s_ w' => (w'.heap[gb400]? = some (.cells #[.int .i64 0, .bool false, .bool false, .bool false, .bool false, .bool false, .bool false, .int .i64 0, .int .u64 0, .int .i64 0, .int .u64 0, .int .i64 0, .int .i64 0, .int .i64 0, .int .i64 0, .int .i64 0] 24 (0, 0))) ∧ (w'.heap[s_]? = some (.cells #[.int .i64 0, .bool false, .bool false, .bool false, .bool false, .bool false, .bool false, .int .i64 0, .int .u64 0, .int .i64 0, .int .u64 0, .int .i64 0, .int .i64 0, .int .i64 0, .int .i64 0, .int .i64 0] 24 (0, 0))) ∧ (w.heap.size ≤ s_) ∧ (w.heap.size ≤ s_) ∧ (gb400 ≠ s_) ∧ (s_ ≠ gb400) ∧ (Below w.heap.size w w')) ?_ ?_
                    rotate_left
                    ·intro hJ8_10_13_15_17_19_25
                     refine join_ (σ := Unit) 5 #[true, true, true, true, true, true, true, true, true, true, true, true, true, true, true, true, true, true, true, true, true, false, true, false, false, false, false] (fun s_ => [(50, .int .u64 t403), (52, .int .i64 t404), (55, .int .u64 t405), (57, .int .i64 t406), (59, .int .i64 t407), (61, .int .i64 t408)]) (fun s_ w' => (w'.heap[gb400]? = some (.cells #[.int .i64 0, .bool false, .bool false, .bool false, .bool false, .bool false, .bool false, .int .i64 0, .int .u64 0, .int .i64 0, .int .u64 0, .int .i64 0, .int .i64 0, .int .i64 0, .int .i64 0, .int .i64 0] 24 (0, 0))) ∧ (Below w.heap.size w w')) ?_ ?_
                     rotate_left
                     ·intro hJ8_10_13_15_17_19
                      refine join_ (σ := Nat) 5 #[true, true, true, true, true, true, true, true, true, true, true, true, true, true, true, true, true, true, true, false, true, false, true, false, false, true, false] (fun s_ => [(50, .int .u64 t403), (52, .int .i64 t404), (55, .int .u64 t405), (57, .int .i64 t406), (59, .int .i64 t407), (6, .pointer (some ⟨s_, 0, none⟩))]) (fun s_ w' => (w'.heap[gb400]? = some (.cells #[.int .i64 0, .bool false, .bool false, .bool false, .bool false, .bool false, .bool false, .int .i64 0, .int .u64 0, .int .i64 0, .int .u64 0, .int .i64 0, .int .i64 0, .int .i64 0, .int .i64 0, .int .i64 0] 24 (0, 0))) ∧ (w'.heap[s_]? = some (.cells #[.int .i64 0, .bool false, .bool false, .bool false, .bool false, .bool false, .bool false, .int .i64 0, .int .u64 0, .int .i64 0, .int .u64 0, .int .i64 0, .int .i64 0, .int .i64 0, .int .i64 0, .int .i64 0] 24 (0, 0))) ∧ (w.heap.size ≤ s_) ∧ (w.heap.size ≤ s_) ∧ (gb400 ≠ s_) ∧ (s_ ≠ gb400) ∧ (Below w.heap.size w w')) ?_ ?_
                      rotate_left
                      ·intro hJ8_10_13_15_17_25
                       refine join_ (σ := Unit) 6 #[true, true, true, true, true, true, true, true, true, true, true, true, true, true, true, true, true, true, true, false, true, false, true, false, false, false, false] (fun s_ => [(50, .int .u64 t403), (52, .int .i64 t404), (55, .int .u64 t405), (57, .int .i64 t406), (59, .int .i64 t407)]) (fun s_ w' => (w'.heap[gb400]? = some (.cells #[.int .i64 0, .bool false, .bool false, .bool false, .bool false, .bool false, .bool false, .int .i64 0, .int .u64 0, .int .i64 0, .int .u64 0, .int .i64 0, .int .i64 0, .int .i64 0, .int .i64 0, .int .i64 0] 24 (0, 0))) ∧ (Below w.heap.size w w')) ?_ ?_
                       rotate_left
                       ·intro hJ8_10_13_15_17
                        refine join_ (σ := Nat) 6 #[true, true, true, true, true, true, true, true, true, true, true, true, true, true, true, true, true, false, true, false, true, false, true, false, false, true, false] (fun s_ => [(50, .int .u64 t403), (52, .int .i64 t404), (55, .int .u64 t405), (57, .int .i64 t406), (6, .pointer (some ⟨s_, 0, none⟩))]) (fun s_ w' => (w'.heap[gb400]? = some (.cells #[.int .i64 0, .bool false, .bool false, .bool false, .bool false, .bool false, .bool false, .int .i64 0, .int .u64 0, .int .i64 0, .int .u64 0, .int .i64 0, .int .i64 0, .int .i64 0, .int .i64 0, .int .i64 0] 24 (0, 0))) ∧ (w'.heap[s_]? = some (.cells #[.int .i64 0, .bool false, .bool false, .bool false, .bool false, .bool false, .bool false, .int .i64 0, .int .u64 0, .int .i64 0, .int .u64 0, .int .i64 0, .int .i64 0, .int .i64 0, .int .i64 0, .int .i64 0] 24 (0, 0))) ∧ (w.heap.size ≤ s_) ∧ (w.heap.size ≤ s_) ∧ (gb400 ≠ s_) ∧ (s_ ≠ gb400) ∧ (Below w.heap.size w w')) ?_ ?_
                        rotate_left
                        ·intro hJ8_10_13_15_25
                         refine join_ (σ := Unit) 7 #[true, true, true, true, true, true, true, true, true, true, true, true, true, true, true, true, true, false, true, false, true, false, true, false, false, false, false] (fun s_ => [(50, .int .u64 t403), (52, .int .i64 t404), (55, .int .u64 t405), (57, .int .i64 t406)]) (fun s_ w' => (w'.heap[gb400]? = some (.cells #[.int .i64 0, .bool false, .bool false, .bool false, .bool false, .bool false, .bool false, .int .i64 0, .int .u64 0, .int .i64 0, .int .u64 0, .int .i64 0, .int .i64 0, .int .i64 0, .int .i64 0, .int .i64 0] 24 (0, 0))) ∧ (Below w.heap.size w w')) ?_ ?_
                         rotate_left
                         ·intro hJ8_10_13_15
                          refine join_ (σ := Nat) 7 #[true, true, true, true, true, true, true, true, true, true, true, true, true, true, true, false, true, false, true, false, true, false, true, false, false, true, false] (fun s_ => [(50, .int .u64 t403), (52, .int .i64 t404), (55, .int .u64 t405), (6, .pointer (some ⟨s_, 0, none⟩))]) (fun s_ w' => (w'.heap[gb400]? = some (.cells #[.int .i64 0, .bool false, .bool false, .bool false, .bool false, .bool false, .bool false, .int .i64 0, .int .u64 0, .int .i64 0, .int .u64 0, .int .i64 0, .int .i64 0, .int .i64 0, .int .i64 0, .int .i64 0] 24 (0, 0))) ∧ (w'.heap[s_]? = some (.cells #[.int .i64 0, .bool false, .bool false, .bool false, .bool false, .bool false, .bool false, .int .i64 0, .int .u64 0, .int .i64 0, .int .u64 0, .int .i64 0, .int .i64 0, .int .i64 0, .int .i64 0, .int .i64 0] 24 (0, 0))) ∧ (w.heap.size ≤ s_) ∧ (w.heap.size ≤ s_) ∧ (gb400 ≠ s_) ∧ (s_ ≠ gb400) ∧ (Below w.heap.size w w')) ?_ ?_
                          rotate_left
                          ·intro hJ8_10_13_25
                           refine join_ (σ := Unit) 8 #[true, true, true, true, true, true, true, true, true, true, true, true, true, true, true, false, true, false, true, false, true, false, true, false, false, false, false] (fun s_ => [(50, .int .u64 t403), (52, .int .i64 t404), (55, .int .u64 t405)]) (fun s_ w' => (w'.heap[gb400]? = some (.cells #[.int .i64 0, .bool false, .bool false, .bool false, .bool false, .bool false, .bool false, .int .i64 0, .int .u64 0, .int .i64 0, .int .u64 0, .int .i64 0, .int .i64 0, .int .i64 0, .int .i64 0, .int .i64 0] 24 (0, 0))) ∧ (Below w.heap.size w w')) ?_ ?_
                           rotate_left
                           ·intro hJ8_10_13
                            refine join_ (σ := Nat) 8 #[true, true, true, true, true, true, true, true, true, true, true, true, true, false, true, false, true, false, true, false, true, false, true, false, false, true, false] (fun s_ => [(50, .int .u64 t403), (52, .int .i64 t404), (6, .pointer (some ⟨s_, 0, none⟩))]) (fun s_ w' => (w'.heap[gb400]? = some (.cells #[.int .i64 0, .bool false, .bool false, .bool false, .bool false, .bool false, .bool false, .int .i64 0, .int .u64 0, .int .i64 0, .int .u64 0, .int .i64 0, .int .i64 0, .int .i64 0, .int .i64 0, .int .i64 0] 24 (0, 0))) ∧ (w'.heap[s_]? = some (.cells #[.int .i64 0, .bool false, .bool false, .bool false, .bool false, .bool false, .bool false, .int .i64 0, .int .u64 0, .int .i64 0, .int .u64 0, .int .i64 0, .int .i64 0, .int .i64 0, .int .i64 0, .int .i64 0] 24 (0, 0))) ∧ (w.heap.size ≤ s_) ∧ (w.heap.size ≤ s_) ∧ (gb400 ≠ s_) ∧ (s_ ≠ gb400) ∧ (Below w.heap.size w w')) ?_ ?_
                            rotate_left
                            ·intro hJ8_10_25
                             refine join_ (σ := Unit) 9 #[true, true, true, true, true, true, true, true, true, true, true, true, true, false, true, false, true, false, true, false, true, false, true, false, false, false, false] (fun s_ => [(50, .int .u64 t403), (52, .int .i64 t404)]) (fun s_ w' => (w'.heap[gb400]? = some (.cells #[.int .i64 0, .bool false, .bool false, .bool false, .bool false, .bool false, .bool false, .int .i64 0, .int .u64 0, .int .i64 0, .int .u64 0, .int .i64 0, .int .i64 0, .int .i64 0, .int .i64 0, .int .i64 0] 24 (0, 0))) ∧ (Below w.heap.size w w')) ?_ ?_
                             rotate_left
                             ·intro hJ8_10
                              refine join_ (σ := Nat) 9 #[true, true, true, true, true, true, true, true, true, true, false, true, true, false, true, false, true, false, true, false, true, false, true, false, false, true, false] (fun s_ => [(50, .int .u64 t403), (6, .pointer (some ⟨s_, 0, none⟩))]) (fun s_ w' => (w'.heap[gb400]? = some (.cells #[.int .i64 0, .bool false, .bool false, .bool false, .bool false, .bool false, .bool false, .int .i64 0, .int .u64 0, .int .i64 0, .int .u64 0, .int .i64 0, .int .i64 0, .int .i64 0, .int .i64 0, .int .i64 0] 24 (0, 0))) ∧ (w'.heap[s_]? = some (.cells #[.int .i64 0, .bool false, .bool false, .bool false, .bool false, .bool false, .bool false, .int .i64 0, .int .u64 0, .int .i64 0, .int .u64 0, .int .i64 0, .int .i64 0, .int .i64 0, .int .i64 0, .int .i64 0] 24 (0, 0))) ∧ (w.heap.size ≤ s_) ∧ (w.heap.size ≤ s_) ∧ (gb400 ≠ s_) ∧ (s_ ≠ gb400) ∧ (Below w.heap.size w w')) ?_ ?_
                              rotate_left
                              ·intro hJ8_25
                               refine join_ (σ := Unit) 10 #[true, true, true, true, true, true, true, true, true, true, false, true, true, false, true, false, true, false, true, false, true, false, true, false, false, false, false] (fun s_ => [(50, .int .u64 t403)]) (fun s_ w' => (w'.heap[gb400]? = some (.cells #[.int .i64 0, .bool false, .bool false, .bool false, .bool false, .bool false, .bool false, .int .i64 0, .int .u64 0, .int .i64 0, .int .u64 0, .int .i64 0, .int .i64 0, .int .i64 0, .int .i64 0, .int .i64 0] 24 (0, 0))) ∧ (Below w.heap.size w w')) ?_ ?_
                               rotate_left
                               ·intro hJ8
                                refine join_ (σ := Nat) 10 #[true, true, true, true, true, true, true, true, false, true, false, true, true, false, true, false, true, false, true, false, true, false, true, false, false, true, false] (fun s_ => [(6, .pointer (some ⟨s_, 0, none⟩))]) (fun s_ w' => (w'.heap[gb400]? = some (.cells #[.int .i64 0, .bool false, .bool false, .bool false, .bool false, .bool false, .bool false, .int .i64 0, .int .u64 0, .int .i64 0, .int .u64 0, .int .i64 0, .int .i64 0, .int .i64 0, .int .i64 0, .int .i64 0] 24 (0, 0))) ∧ (w'.heap[s_]? = some (.cells #[.int .i64 0, .bool false, .bool false, .bool false, .bool false, .bool false, .bool false, .int .i64 0, .int .u64 0, .int .i64 0, .int .u64 0, .int .i64 0, .int .i64 0, .int .i64 0, .int .i64 0, .int .i64 0] 24 (0, 0))) ∧ (w.heap.size ≤ s_) ∧ (w.heap.size ≤ s_) ∧ (gb400 ≠ s_) ∧ (s_ ≠ gb400) ∧ (Below w.heap.size w w')) ?_ ?_
                                rotate_left
                                ·intro hJ25
                                 refine two_ (i := 8) (j := 25) (Ni := some 50) (Nj := some 6) #[true, true, true, true, true, true, true, true, true, true, false, true, true, false, true, false, true, false, true, false, true, false, true, false, false, false, false] #[true, true, true, true, true, true, true, true, false, true, false, true, true, false, true, false, true, false, true, false, true, false, true, false, false, true, false] rfl rfl rfl rfl (two_of HT_.out qf) qd qd (fun K hK => ?_) (fun K hK => ?_)
                                 ·skip
                                  refine goes_ Tryd.func30 qf rfl #[.string (a0.extract 8 16)] qcx rfl rfl qbi ?_
                                  with_reducible refine (gangwayref01_Num.calls kj16 (a0.extract 8 16) t403 _ A25.out).mono ?_
                                  rintro e w' ⟨rfl, ⟨nd, rfl⟩⟩
                                  refine ⟨_, rfl, ?_⟩
                                  refine hK.out _ _ trivial (fun hHeld => ?_)
                                  clear hK K
                                  refine norm_ (a' := ?_) ?_ ?_
                                  rotate_left
                                  ·exact z21_5
                                  exact norm_ qcg (hJ8 () _ ⟨qr, qbk⟩)
                                 ·skip
                                  refine box_step ?hg (N := 6) ?hd (cs := #[.int .i64 0, .bool false, .bool false, .bool false, .bool false, .bool false, .bool false, .int .i64 0, .int .u64 0, .int .i64 0, .int .u64 0, .int .i64 0, .int .i64 0, .int .i64 0, .int .i64 0, .int .i64 0]) (t := 24) ?hr ?_; (case hd => rfl); (case hg => rfl); (case hr => first | (go_simp; done) | (go_simp; rfl))
                                  intro gb411 hg w37 hbox hb
                                  have n0_ := Aside0.mk (blk_below (g := gb400) (o := .cells #[.int .i64 0, .bool false, .bool false, .bool false, .bool false, .bool false, .bool false, .int .i64 0, .int .u64 0, .int .i64 0, .int .u64 0, .int .i64 0, .int .i64 0, .int .i64 0, .int .i64 0, .int .i64 0] 24 (0, 0)) qr hb)
                                  have n1_ := Aside0.mk (below_step qbk hb)
                                  have n2_ := Aside0.mk (hbox)
                                  have n3_ := Aside0.mk ((qcr : w.heap.size ≤ gb411))
                                  have n4_ := Aside0.mk ((qcr : w.heap.size ≤ gb411))
                                  have n5_ := Aside0.mk ((qdf : gb400 ≠ gb411))
                                  have n6_ := Aside0.mk ((qde : gb411 ≠ gb400))
                                  clear BK400
                                  clear HB
                                  have BK400 := n0_
                                  have HB := n1_
                                  have BK411 := n2_
                                  have GW411 := n3_
                                  have GE411 := n4_
                                  have NB400_411 := n5_
                                  have NB411_400 := n6_
                                  clear n0_ n1_ n2_ n3_ n4_ n5_ n6_
                                  clear hb hbox hg
                                  refine hK.out _ _ trivial (fun hHeld => ?_)
                                  clear hK K
                                  refine norm_ (a' := ?_) ?_ ?_
                                  rotate_left
                                  ·exact z21_4
                                  exact norm_ qcg (hJ25 (gb411) _ ⟨qr, qu, GW411.out, GE411.out, NB400_411.out, NB411_400.out, qb7⟩)
                                ·skip
                                 rintro gb411 w38 ⟨h0_, h1_, h2_, h3_, h4_, h5_, h6_⟩
                                 have n0_ : Aside0 (w38.heap[gb400]? = some (.cells #[.int .i64 0, .bool false, .bool false, .bool false, .bool false, .bool false, .bool false, .int .i64 0, .int .u64 0, .int .i64 0, .int .u64 0, .int .i64 0, .int .i64 0, .int .i64 0, .int .i64 0, .int .i64 0] 24 (0, 0))) := ⟨h0_⟩
                                 have n1_ : Aside0 (w38.heap[gb411]? = some (.cells #[.int .i64 0, .bool false, .bool false, .bool false, .bool false, .bool false, .bool false, .int .i64 0, .int .u64 0, .int .i64 0, .int .u64 0, .int .i64 0, .int .i64 0, .int .i64 0, .int .i64 0, .int .i64 0] 24 (0, 0))) := ⟨h1_⟩
                                 have n2_ : Aside0 (w.heap.size ≤ gb411) := ⟨h2_⟩
                                 have n3_ : Aside0 (w.heap.size ≤ gb411) := ⟨h3_⟩
                                 have n4_ : Aside0 (gb400 ≠ gb411) := ⟨h4_⟩
                                 have n5_ : Aside0 (gb411 ≠ gb400) := ⟨h5_⟩
                                 have n6_ : Aside0 (Below w.heap.size w w38) := ⟨h6_⟩
                                 clear BK400
                                 clear HB
                                 clear h0_ h1_ h2_ h3_ h4_ h5_ h6_
                                 have BK400 := n0_
                                 have BK411 := n1_
                                 have GW411 := n2_
                                 have GE411 := n3_
                                 have NB400_411 := n4_
                                 have NB411_400 := n5_
                                 have HB := n6_
                                 clear n0_ n1_ n2_ n3_ n4_ n5_ n6_
                                 have hHeld := trivial
                                 refine norm_ (a' := ?_) ?_ ?_
                                 rotate_left
                                 ·exact z21_3
                                 refine one_ (i := 8) (N := some 50) #[true, true, true, true, true, true, true, true, true, true, false, true, true, false, true, false, true, false, true, false, true, false, true, false, false, true, false] rfl rfl (one_of HT_.out qf) qd (fun K hK => ?_)
                                 refine goes_ Tryd.func30 qf rfl #[.string (a0.extract 8 16)] qcx rfl rfl qbi ?_
                                 with_reducible refine (gangwayref01_Num.calls kj16 (a0.extract 8 16) t403 _ A25.out).mono ?_
                                 rintro e w' ⟨rfl, ⟨nd, rfl⟩⟩
                                 refine ⟨_, rfl, ?_⟩
                                 refine hK.out _ _ trivial (fun hHeld => ?_)
                                 clear hK K
                                 refine norm_ (a' := ?_) ?_ ?_
                                 rotate_left
                                 ·exact z21_5
                                 exact norm_ qcg (hJ8_25 (gb411) _ ⟨qr, qu, GW411.out, GE411.out, NB400_411.out, NB411_400.out, qb7⟩)
                               ·skip
                                rintro _ w37 ⟨h0_, h1_⟩
                                have n0_ : Aside0 (w37.heap[gb400]? = some (.cells #[.int .i64 0, .bool false, .bool false, .bool false, .bool false, .bool false, .bool false, .int .i64 0, .int .u64 0, .int .i64 0, .int .u64 0, .int .i64 0, .int .i64 0, .int .i64 0, .int .i64 0, .int .i64 0] 24 (0, 0))) := ⟨h0_⟩
                                have n1_ : Aside0 (Below w.heap.size w w37) := ⟨h1_⟩
                                clear BK400
                                clear HB
                                clear h0_ h1_
                                have BK400 := n0_
                                have HB := n1_
                                clear n0_ n1_
                                have hHeld := trivial
                                refine norm_ (a' := ?_) ?_ ?_
                                rotate_left
                                ·exact z21_3
                                refine two_ (i := 10) (j := 25) (Ni := some 52) (Nj := some 6) #[true, true, true, true, true, true, true, true, true, true, true, true, true, false, true, false, true, false, true, false, true, false, true, false, false, false, false] #[true, true, true, true, true, true, true, true, true, true, false, true, true, false, true, false, true, false, true, false, true, false, true, false, false, true, false] rfl rfl rfl rfl (two_of HT_.out qf) qd qd (fun K hK => ?_) (fun K hK => ?_)
                                ·skip
                                 refine goes_ Tryd.func29 qf rfl #[.string a0, .int .i64 16, .int .i64 20] qcx rfl rfl qbi ?_
                                 with_reducible refine (gangwayref09_num.calls kj16 a0 16 20 t404 _ A26.out).mono ?_
                                 rintro e w' ⟨rfl, ⟨nd, rfl⟩⟩
                                 refine ⟨_, rfl, ?_⟩
                                 refine hK.out _ _ trivial (fun hHeld => ?_)
                                 clear hK K
                                 refine norm_ (a' := ?_) ?_ ?_
                                 rotate_left
                                 ·exact z21_6
                                 exact norm_ qcg (hJ8_10 () _ ⟨qr, qbk⟩)
                                ·skip
                                 refine box_step ?hg (N := 6) ?hd (cs := #[.int .i64 0, .bool false, .bool false, .bool false, .bool false, .bool false, .bool false, .int .i64 0, .int .u64 0, .int .i64 0, .int .u64 0, .int .i64 0, .int .i64 0, .int .i64 0, .int .i64 0, .int .i64 0]) (t := 24) ?hr ?_; (case hd => rfl); (case hg => rfl); (case hr => first | (go_simp; done) | (go_simp; rfl))
                                 intro gb411 hg w38 hbox hb
                                 have n0_ := Aside0.mk (blk_below (g := gb400) (o := .cells #[.int .i64 0, .bool false, .bool false, .bool false, .bool false, .bool false, .bool false, .int .i64 0, .int .u64 0, .int .i64 0, .int .u64 0, .int .i64 0, .int .i64 0, .int .i64 0, .int .i64 0, .int .i64 0] 24 (0, 0)) qr hb)
                                 have n1_ := Aside0.mk (below_step qbk hb)
                                 have n2_ := Aside0.mk (hbox)
                                 have n3_ := Aside0.mk ((qcr : w.heap.size ≤ gb411))
                                 have n4_ := Aside0.mk ((qcr : w.heap.size ≤ gb411))
                                 have n5_ := Aside0.mk ((qdf : gb400 ≠ gb411))
                                 have n6_ := Aside0.mk ((qde : gb411 ≠ gb400))
                                 clear BK400
                                 clear HB
                                 have BK400 := n0_
                                 have HB := n1_
                                 have BK411 := n2_
                                 have GW411 := n3_
                                 have GE411 := n4_
                                 have NB400_411 := n5_
                                 have NB411_400 := n6_
                                 clear n0_ n1_ n2_ n3_ n4_ n5_ n6_
                                 clear hb hbox hg
                                 refine hK.out _ _ trivial (fun hHeld => ?_)
                                 clear hK K
                                 refine norm_ (a' := ?_) ?_ ?_
                                 rotate_left
                                 ·exact z21_4
                                 exact norm_ qcg (hJ8_25 (gb411) _ ⟨qr, qu, GW411.out, GE411.out, NB400_411.out, NB411_400.out, qb7⟩)
                              ·skip
                               rintro gb411 w38 ⟨h0_, h1_, h2_, h3_, h4_, h5_, h6_⟩
                               have n0_ : Aside0 (w38.heap[gb400]? = some (.cells #[.int .i64 0, .bool false, .bool false, .bool false, .bool false, .bool false, .bool false, .int .i64 0, .int .u64 0, .int .i64 0, .int .u64 0, .int .i64 0, .int .i64 0, .int .i64 0, .int .i64 0, .int .i64 0] 24 (0, 0))) := ⟨h0_⟩
                               have n1_ : Aside0 (w38.heap[gb411]? = some (.cells #[.int .i64 0, .bool false, .bool false, .bool false, .bool false, .bool false, .bool false, .int .i64 0, .int .u64 0, .int .i64 0, .int .u64 0, .int .i64 0, .int .i64 0, .int .i64 0, .int .i64 0, .int .i64 0] 24 (0, 0))) := ⟨h1_⟩
                               have n2_ : Aside0 (w.heap.size ≤ gb411) := ⟨h2_⟩
                               have n3_ : Aside0 (w.heap.size ≤ gb411) := ⟨h3_⟩
                               have n4_ : Aside0 (gb400 ≠ gb411) := ⟨h4_⟩
                               have n5_ : Aside0 (gb411 ≠ gb400) := ⟨h5_⟩
                               have n6_ : Aside0 (Below w.heap.size w w38) := ⟨h6_⟩
                               clear BK400
                               clear HB
                               clear h0_ h1_ h2_ h3_ h4_ h5_ h6_
                               have BK400 := n0_
                               have BK411 := n1_
                               have GW411 := n2_
                               have GE411 := n3_
                               have NB400_411 := n4_
                               have NB411_400 := n5_
                               have HB := n6_
                               clear n0_ n1_ n2_ n3_ n4_ n5_ n6_
                               have hHeld := trivial
                               refine norm_ (a' := ?_) ?_ ?_
                               rotate_left
                               ·exact z21_3
                               refine one_ (i := 10) (N := some 52) #[true, true, true, true, true, true, true, true, true, true, true, true, true, false, true, false, true, false, true, false, true, false, true, false, false, true, false] rfl rfl (one_of HT_.out qf) qd (fun K hK => ?_)
                               refine goes_ Tryd.func29 qf rfl #[.string a0, .int .i64 16, .int .i64 20] qcx rfl rfl qbi ?_
                               with_reducible refine (gangwayref09_num.calls kj16 a0 16 20 t404 _ A26.out).mono ?_
                               rintro e w' ⟨rfl, ⟨nd, rfl⟩⟩
                               refine ⟨_, rfl, ?_⟩
                               refine hK.out _ _ trivial (fun hHeld => ?_)
                               clear hK K
                               refine norm_ (a' := ?_) ?_ ?_
                               rotate_left
                               ·exact z21_6
                               exact norm_ qcg (hJ8_10_25 (gb411) _ ⟨qr, qu, GW411.out, GE411.out, NB400_411.out, NB411_400.out, qb7⟩)
                             ·skip
                              rintro _ w37 ⟨h0_, h1_⟩
                              have n0_ : Aside0 (w37.heap[gb400]? = some (.cells #[.int .i64 0, .bool false, .bool false, .bool false, .bool false, .bool false, .bool false, .int .i64 0, .int .u64 0, .int .i64 0, .int .u64 0, .int .i64 0, .int .i64 0, .int .i64 0, .int .i64 0, .int .i64 0] 24 (0, 0))) := ⟨h0_⟩
                              have n1_ : Aside0 (Below w.heap.size w w37) := ⟨h1_⟩
                              clear BK400
                              clear HB
                              clear h0_ h1_
                              have BK400 := n0_
                              have HB := n1_
                              clear n0_ n1_
                              have hHeld := trivial
                              refine norm_ (a' := ?_) ?_ ?_
                              rotate_left
                              ·exact z21_3
                              refine two_ (i := 13) (j := 25) (Ni := some 55) (Nj := some 6) #[true, true, true, true, true, true, true, true, true, true, true, true, true, true, true, false, true, false, true, false, true, false, true, false, false, false, false] #[true, true, true, true, true, true, true, true, true, true, true, true, true, false, true, false, true, false, true, false, true, false, true, false, false, true, false] rfl rfl rfl rfl (two_of HT_.out qf) qd qd (fun K hK => ?_) (fun K hK => ?_)
                              ·skip
                               refine goes_ Tryd.func30 qf rfl #[.string (a0.extract 20 28)] qcx rfl rfl qbi ?_
                               with_reducible refine (gangwayref01_Num.calls kj16 (a0.extract 20 28) t405 _ A29.out).mono ?_
                               rintro e w' ⟨rfl, ⟨nd, rfl⟩⟩
                               refine ⟨_, rfl, ?_⟩
                               refine hK.out _ _ trivial (fun hHeld => ?_)
                               clear hK K
                               refine norm_ (a' := ?_) ?_ ?_
                               rotate_left
                               ·exact z21_7
                               exact norm_ qcg (hJ8_10_13 () _ ⟨qr, qbk⟩)
                              ·skip
                               refine box_step ?hg (N := 6) ?hd (cs := #[.int .i64 0, .bool false, .bool false, .bool false, .bool false, .bool false, .bool false, .int .i64 0, .int .u64 0, .int .i64 0, .int .u64 0, .int .i64 0, .int .i64 0, .int .i64 0, .int .i64 0, .int .i64 0]) (t := 24) ?hr ?_; (case hd => rfl); (case hg => rfl); (case hr => first | (go_simp; done) | (go_simp; rfl))
                               intro gb411 hg w38 hbox hb
                               have n0_ := Aside0.mk (blk_below (g := gb400) (o := .cells #[.int .i64 0, .bool false, .bool false, .bool false, .bool false, .bool false, .bool false, .int .i64 0, .int .u64 0, .int .i64 0, .int .u64 0, .int .i64 0, .int .i64 0, .int .i64 0, .int .i64 0, .int .i64 0] 24 (0, 0)) qr hb)
                               have n1_ := Aside0.mk (below_step qbk hb)
                               have n2_ := Aside0.mk (hbox)
                               have n3_ := Aside0.mk ((qcr : w.heap.size ≤ gb411))
                               have n4_ := Aside0.mk ((qcr : w.heap.size ≤ gb411))
                               have n5_ := Aside0.mk ((qdf : gb400 ≠ gb411))
                               have n6_ := Aside0.mk ((qde : gb411 ≠ gb400))
                               clear BK400
                               clear HB
                               have BK400 := n0_
                               have HB := n1_
                               have BK411 := n2_
                               have GW411 := n3_
                               have GE411 := n4_
                               have NB400_411 := n5_
                               have NB411_400 := n6_
                               clear n0_ n1_ n2_ n3_ n4_ n5_ n6_
                               clear hb hbox hg
                               refine hK.out _ _ trivial (fun hHeld => ?_)
                               clear hK K
                               refine norm_ (a' := ?_) ?_ ?_
                               rotate_left
                               ·exact z21_4
                               exact norm_ qcg (hJ8_10_25 (gb411) _ ⟨qr, qu, GW411.out, GE411.out, NB400_411.out, NB411_400.out, qb7⟩)
                            ·skip
                             rintro gb411 w38 ⟨h0_, h1_, h2_, h3_, h4_, h5_, h6_⟩
                             have n0_ : Aside0 (w38.heap[gb400]? = some (.cells #[.int .i64 0, .bool false, .bool false, .bool false, .bool false, .bool false, .bool false, .int .i64 0, .int .u64 0, .int .i64 0, .int .u64 0, .int .i64 0, .int .i64 0, .int .i64 0, .int .i64 0, .int .i64 0] 24 (0, 0))) := ⟨h0_⟩
                             have n1_ : Aside0 (w38.heap[gb411]? = some (.cells #[.int .i64 0, .bool false, .bool false, .bool false, .bool false, .bool false, .bool false, .int .i64 0, .int .u64 0, .int .i64 0, .int .u64 0, .int .i64 0, .int .i64 0, .int .i64 0, .int .i64 0, .int .i64 0] 24 (0, 0))) := ⟨h1_⟩
                             have n2_ : Aside0 (w.heap.size ≤ gb411) := ⟨h2_⟩
                             have n3_ : Aside0 (w.heap.size ≤ gb411) := ⟨h3_⟩
                             have n4_ : Aside0 (gb400 ≠ gb411) := ⟨h4_⟩
                             have n5_ : Aside0 (gb411 ≠ gb400) := ⟨h5_⟩
                             have n6_ : Aside0 (Below w.heap.size w w38) := ⟨h6_⟩
                             clear BK400
                             clear HB
                             clear h0_ h1_ h2_ h3_ h4_ h5_ h6_
                             have BK400 := n0_
                             have BK411 := n1_
                             have GW411 := n2_
                             have GE411 := n3_
                             have NB400_411 := n4_
                             have NB411_400 := n5_
                             have HB := n6_
                             clear n0_ n1_ n2_ n3_ n4_ n5_ n6_
                             have hHeld := trivial
                             refine norm_ (a' := ?_) ?_ ?_
                             rotate_left
                             ·exact z21_3
                             refine one_ (i := 13) (N := some 55) #[true, true, true, true, true, true, true, true, true, true, true, true, true, true, true, false, true, false, true, false, true, false, true, false, false, true, false] rfl rfl (one_of HT_.out qf) qd (fun K hK => ?_)
                             refine goes_ Tryd.func30 qf rfl #[.string (a0.extract 20 28)] qcx rfl rfl qbi ?_
                             with_reducible refine (gangwayref01_Num.calls kj16 (a0.extract 20 28) t405 _ A29.out).mono ?_
                             rintro e w' ⟨rfl, ⟨nd, rfl⟩⟩
                             refine ⟨_, rfl, ?_⟩
                             refine hK.out _ _ trivial (fun hHeld => ?_)
                             clear hK K
                             refine norm_ (a' := ?_) ?_ ?_
                             rotate_left
                             ·exact z21_7
                             exact norm_ qcg (hJ8_10_13_25 (gb411) _ ⟨qr, qu, GW411.out, GE411.out, NB400_411.out, NB411_400.out, qb7⟩)
                           ·skip
                            rintro _ w37 ⟨h0_, h1_⟩
                            have n0_ : Aside0 (w37.heap[gb400]? = some (.cells #[.int .i64 0, .bool false, .bool false, .bool false, .bool false, .bool false, .bool false, .int .i64 0, .int .u64 0, .int .i64 0, .int .u64 0, .int .i64 0, .int .i64 0, .int .i64 0, .int .i64 0, .int .i64 0] 24 (0, 0))) := ⟨h0_⟩
                            have n1_ : Aside0 (Below w.heap.size w w37) := ⟨h1_⟩
                            clear BK400
                            clear HB
                            clear h0_ h1_
                            have BK400 := n0_
                            have HB := n1_
                            clear n0_ n1_
                            have hHeld := trivial
                            refine norm_ (a' := ?_) ?_ ?_
                            rotate_left
                            ·exact z21_3
                            refine two_ (i := 15) (j := 25) (Ni := some 57) (Nj := some 6) #[true, true, true, true, true, true, true, true, true, true, true, true, true, true, true, true, true, false, true, false, true, false, true, false, false, false, false] #[true, true, true, true, true, true, true, true, true, true, true, true, true, true, true, false, true, false, true, false, true, false, true, false, false, true, false] rfl rfl rfl rfl (two_of HT_.out qf) qd qd (fun K hK => ?_) (fun K hK => ?_)
                            ·skip
                             refine goes_ Tryd.func29 qf rfl #[.string a0, .int .i64 28, .int .i64 30] qcx rfl rfl qbi ?_
                             with_reducible refine (gangwayref09_num.calls kj16 a0 28 30 t406 _ A30.out).mono ?_
                             rintro e w' ⟨rfl, ⟨nd, rfl⟩⟩
                             refine ⟨_, rfl, ?_⟩
                             refine hK.out _ _ trivial (fun hHeld => ?_)
                             clear hK K
                             refine norm_ (a' := ?_) ?_ ?_
                             rotate_left
                             ·exact z21_8
                             exact norm_ qcg (hJ8_10_13_15 () _ ⟨qr, qbk⟩)
                            ·skip
                             refine box_step ?hg (N := 6) ?hd (cs := #[.int .i64 0, .bool false, .bool false, .bool false, .bool false, .bool false, .bool false, .int .i64 0, .int .u64 0, .int .i64 0, .int .u64 0, .int .i64 0, .int .i64 0, .int .i64 0, .int .i64 0, .int .i64 0]) (t := 24) ?hr ?_; (case hd => rfl); (case hg => rfl); (case hr => first | (go_simp; done) | (go_simp; rfl))
                             intro gb411 hg w38 hbox hb
                             have n0_ := Aside0.mk (blk_below (g := gb400) (o := .cells #[.int .i64 0, .bool false, .bool false, .bool false, .bool false, .bool false, .bool false, .int .i64 0, .int .u64 0, .int .i64 0, .int .u64 0, .int .i64 0, .int .i64 0, .int .i64 0, .int .i64 0, .int .i64 0] 24 (0, 0)) qr hb)
                             have n1_ := Aside0.mk (below_step qbk hb)
                             have n2_ := Aside0.mk (hbox)
                             have n3_ := Aside0.mk ((qcr : w.heap.size ≤ gb411))
                             have n4_ := Aside0.mk ((qcr : w.heap.size ≤ gb411))
                             have n5_ := Aside0.mk ((qdf : gb400 ≠ gb411))
                             have n6_ := Aside0.mk ((qde : gb411 ≠ gb400))
                             clear BK400
                             clear HB
                             have BK400 := n0_
                             have HB := n1_
                             have BK411 := n2_
                             have GW411 := n3_
                             have GE411 := n4_
                             have NB400_411 := n5_
                             have NB411_400 := n6_
                             clear n0_ n1_ n2_ n3_ n4_ n5_ n6_
                             clear hb hbox hg
                             refine hK.out _ _ trivial (fun hHeld => ?_)
                             clear hK K
                             refine norm_ (a' := ?_) ?_ ?_
                             rotate_left
                             ·exact z21_4
                             exact norm_ qcg (hJ8_10_13_25 (gb411) _ ⟨qr, qu, GW411.out, GE411.out, NB400_411.out, NB411_400.out, qb7⟩)
                          ·skip
                           rintro gb411 w38 ⟨h0_, h1_, h2_, h3_, h4_, h5_, h6_⟩
                           have n0_ : Aside0 (w38.heap[gb400]? = some (.cells #[.int .i64 0, .bool false, .bool false, .bool false, .bool false, .bool false, .bool false, .int .i64 0, .int .u64 0, .int .i64 0, .int .u64 0, .int .i64 0, .int .i64 0, .int .i64 0, .int .i64 0, .int .i64 0] 24 (0, 0))) := ⟨h0_⟩
                           have n1_ : Aside0 (w38.heap[gb411]? = some (.cells #[.int .i64 0, .bool false, .bool false, .bool false, .bool false, .bool false, .bool false, .int .i64 0, .int .u64 0, .int .i64 0, .int .u64 0, .int .i64 0, .int .i64 0, .int .i64 0, .int .i64 0, .int .i64 0] 24 (0, 0))) := ⟨h1_⟩
                           have n2_ : Aside0 (w.heap.size ≤ gb411) := ⟨h2_⟩
                           have n3_ : Aside0 (w.heap.size ≤ gb411) := ⟨h3_⟩
                           have n4_ : Aside0 (gb400 ≠ gb411) := ⟨h4_⟩
                           have n5_ : Aside0 (gb411 ≠ gb400) := ⟨h5_⟩
                           have n6_ : Aside0 (Below w.heap.size w w38) := ⟨h6_⟩
                           clear BK400
                           clear HB
                           clear h0_ h1_ h2_ h3_ h4_ h5_ h6_
                           have BK400 := n0_
                           have BK411 := n1_
                           have GW411 := n2_
                           have GE411 := n3_
                           have NB400_411 := n4_
                           have NB411_400 := n5_
                           have HB := n6_
                           clear n0_ n1_ n2_ n3_ n4_ n5_ n6_
                           have hHeld := trivial
                           refine norm_ (a' := ?_) ?_ ?_
                           rotate_left
                           ·exact z21_3
                           refine one_ (i := 15) (N := some 57) #[true, true, true, true, true, true, true, true, true, true, true, true, true, true, true, true, true, false, true, false, true, false, true, false, false, true, false] rfl rfl (one_of HT_.out qf) qd (fun K hK => ?_)
                           refine goes_ Tryd.func29 qf rfl #[.string a0, .int .i64 28, .int .i64 30] qcx rfl rfl qbi ?_
                           with_reducible refine (gangwayref09_num.calls kj16 a0 28 30 t406 _ A30.out).mono ?_
                           rintro e w' ⟨rfl, ⟨nd, rfl⟩⟩
                           refine ⟨_, rfl, ?_⟩
                           refine hK.out _ _ trivial (fun hHeld => ?_)
                           clear hK K
                           refine norm_ (a' := ?_) ?_ ?_
                           rotate_left
                           ·exact z21_8
                           exact norm_ qcg (hJ8_10_13_15_25 (gb411) _ ⟨qr, qu, GW411.out, GE411.out, NB400_411.out, NB411_400.out, qb7⟩)
                         ·skip
                          rintro _ w37 ⟨h0_, h1_⟩
                          have n0_ : Aside0 (w37.heap[gb400]? = some (.cells #[.int .i64 0, .bool false, .bool false, .bool false, .bool false, .bool false, .bool false, .int .i64 0, .int .u64 0, .int .i64 0, .int .u64 0, .int .i64 0, .int .i64 0, .int .i64 0, .int .i64 0, .int .i64 0] 24 (0, 0))) := ⟨h0_⟩
                          have n1_ : Aside0 (Below w.heap.size w w37) := ⟨h1_⟩
                          clear BK400
                          clear HB
                          clear h0_ h1_
                          have BK400 := n0_
                          have HB := n1_
                          clear n0_ n1_
                          have hHeld := trivial
                          refine norm_ (a' := ?_) ?_ ?_
                          rotate_left
                          ·exact z21_3
                          refine two_ (i := 17) (j := 25) (Ni := some 59) (Nj := some 6) #[true, true, true, true, true, true, true, true, true, true, true, true, true, true, true, true, true, true, true, false, true, false, true, false, false, false, false] #[true, true, true, true, true, true, true, true, true, true, true, true, true, true, true, true, true, false, true, false, true, false, true, false, false, true, false] rfl rfl rfl rfl (two_of HT_.out qf) qd qd (fun K hK => ?_) (fun K hK => ?_)
                          ·skip
                           refine goes_ Tryd.func29 qf rfl #[.string a0, .int .i64 30, .int .i64 32] qcx rfl rfl qbi ?_
                           with_reducible refine (gangwayref09_num.calls kj16 a0 30 32 t407 _ A31.out).mono ?_
                           rintro e w' ⟨rfl, ⟨nd, rfl⟩⟩
                           refine ⟨_, rfl, ?_⟩
                           refine hK.out _ _ trivial (fun hHeld => ?_)
                           clear hK K
                           refine norm_ (a' := ?_) ?_ ?_
                           rotate_left
                           ·exact z21_9
                           exact norm_ qcg (hJ8_10_13_15_17 () _ ⟨qr, qbk⟩)
                          ·skip
                           refine box_step ?hg (N := 6) ?hd (cs := #[.int .i64 0, .bool false, .bool false, .bool false, .bool false, .bool false, .bool false, .int .i64 0, .int .u64 0, .int .i64 0, .int .u64 0, .int .i64 0, .int .i64 0, .int .i64 0, .int .i64 0, .int .i64 0]) (t := 24) ?hr ?_; (case hd => rfl); (case hg => rfl); (case hr => first | (go_simp; done) | (go_simp; rfl))
                           intro gb411 hg w38 hbox hb
                           have n0_ := Aside0.mk (blk_below (g := gb400) (o := .cells #[.int .i64 0, .bool false, .bool false, .bool false, .bool false, .bool false, .bool false, .int .i64 0, .int .u64 0, .int .i64 0, .int .u64 0, .int .i64 0, .int .i64 0, .int .i64 0, .int .i64 0, .int .i64 0] 24 (0, 0)) qr hb)
                           have n1_ := Aside0.mk (below_step qbk hb)
                           have n2_ := Aside0.mk (hbox)
                           have n3_ := Aside0.mk ((qcr : w.heap.size ≤ gb411))
                           have n4_ := Aside0.mk ((qcr : w.heap.size ≤ gb411))
                           have n5_ := Aside0.mk ((qdf : gb400 ≠ gb411))
                           have n6_ := Aside0.mk ((qde : gb411 ≠ gb400))
                           clear BK400
                           clear HB
                           have BK400 := n0_
                           have HB := n1_
                           have BK411 := n2_
                           have GW411 := n3_
                           have GE411 := n4_
                           have NB400_411 := n5_
                           have NB411_400 := n6_
                           clear n0_ n1_ n2_ n3_ n4_ n5_ n6_
                           clear hb hbox hg
                           refine hK.out _ _ trivial (fun hHeld => ?_)
                           clear hK K
                           refine norm_ (a' := ?_) ?_ ?_
                           rotate_left
                           ·exact z21_4
                           exact norm_ qcg (hJ8_10_13_15_25 (gb411) _ ⟨qr, qu, GW411.out, GE411.out, NB400_411.out, NB411_400.out, qb7⟩)
                        ·skip
                         rintro gb411 w38 ⟨h0_, h1_, h2_, h3_, h4_, h5_, h6_⟩
                         have n0_ : Aside0 (w38.heap[gb400]? = some (.cells #[.int .i64 0, .bool false, .bool false, .bool false, .bool false, .bool false, .bool false, .int .i64 0, .int .u64 0, .int .i64 0, .int .u64 0, .int .i64 0, .int .i64 0, .int .i64 0, .int .i64 0, .int .i64 0] 24 (0, 0))) := ⟨h0_⟩
                         have n1_ : Aside0 (w38.heap[gb411]? = some (.cells #[.int .i64 0, .bool false, .bool false, .bool false, .bool false, .bool false, .bool false, .int .i64 0, .int .u64 0, .int .i64 0, .int .u64 0, .int .i64 0, .int .i64 0, .int .i64 0, .int .i64 0, .int .i64 0] 24 (0, 0))) := ⟨h1_⟩
                         have n2_ : Aside0 (w.heap.size ≤ gb411) := ⟨h2_⟩
                         have n3_ : Aside0 (w.heap.size ≤ gb411) := ⟨h3_⟩
                         have n4_ : Aside0 (gb400 ≠ gb411) := ⟨h4_⟩
                         have n5_ : Aside0 (gb411 ≠ gb400) := ⟨h5_⟩
                         have n6_ : Aside0 (Below w.heap.size w w38) := ⟨h6_⟩
                         clear BK400
                         clear HB
                         clear h0_ h1_ h2_ h3_ h4_ h5_ h6_
                         have BK400 := n0_
                         have BK411 := n1_
                         have GW411 := n2_
                         have GE411 := n3_
                         have NB400_411 := n4_
                         have NB411_400 := n5_
                         have HB := n6_
                         clear n0_ n1_ n2_ n3_ n4_ n5_ n6_
                         have hHeld := trivial
                         refine norm_ (a' := ?_) ?_ ?_
                         rotate_left
                         ·exact z21_3
                         refine one_ (i := 17) (N := some 59) #[true, true, true, true, true, true, true, true, true, true, true, true, true, true, true, true, true, true, true, false, true, false, true, false, false, true, false] rfl rfl (one_of HT_.out qf) qd (fun K hK => ?_)
                         refine goes_ Tryd.func29 qf rfl #[.string a0, .int .i64 30, .int .i64 32] qcx rfl rfl qbi ?_
                         with_reducible refine (gangwayref09_num.calls kj16 a0 30 32 t407 _ A31.out).mono ?_
                         rintro e w' ⟨rfl, ⟨nd, rfl⟩⟩
                         refine ⟨_, rfl, ?_⟩
                         refine hK.out _ _ trivial (fun hHeld => ?_)
                         clear hK K
                         refine norm_ (a' := ?_) ?_ ?_
                         rotate_left
                         ·exact z21_9
                         exact norm_ qcg (hJ8_10_13_15_17_25 (gb411) _ ⟨qr, qu, GW411.out, GE411.out, NB400_411.out, NB411_400.out, qb7⟩)
                       ·skip
                        rintro _ w37 ⟨h0_, h1_⟩
                        have n0_ : Aside0 (w37.heap[gb400]? = some (.cells #[.int .i64 0, .bool false, .bool false, .bool false, .bool false, .bool false, .bool false, .int .i64 0, .int .u64 0, .int .i64 0, .int .u64 0, .int .i64 0, .int .i64 0, .int .i64 0, .int .i64 0, .int .i64 0] 24 (0, 0))) := ⟨h0_⟩
                        have n1_ : Aside0 (Below w.heap.size w w37) := ⟨h1_⟩
                        clear BK400
                        clear HB
                        clear h0_ h1_
                        have BK400 := n0_
                        have HB := n1_
                        clear n0_ n1_
                        have hHeld := trivial
                        refine norm_ (a' := ?_) ?_ ?_
                        rotate_left
                        ·exact z21_3
                        refine two_ (i := 19) (j := 25) (Ni := some 61) (Nj := some 6) #[true, true, true, true, true, true, true, true, true, true, true, true, true, true, true, true, true, true, true, true, true, false, true, false, false, false, false] #[true, true, true, true, true, true, true, true, true, true, true, true, true, true, true, true, true, true, true, false, true, false, true, false, false, true, false] rfl rfl rfl rfl (two_of HT_.out qf) qd qd (fun K hK => ?_) (fun K hK => ?_)
                        ·skip
                         refine goes_ Tryd.func29 qf rfl #[.string a0, .int .i64 32, .int .i64 34] qcx rfl rfl qbi ?_
                         with_reducible refine (gangwayref09_num.calls kj16 a0 32 34 t408 _ A32.out).mono ?_
                         rintro e w' ⟨rfl, ⟨nd, rfl⟩⟩
                         refine ⟨_, rfl, ?_⟩
                         refine hK.out _ _ trivial (fun hHeld => ?_)
                         clear hK K
                         refine norm_ (a' := ?_) ?_ ?_
                         rotate_left
                         ·exact z21_10
                         exact norm_ qcg (hJ8_10_13_15_17_19 () _ ⟨qr, qbk⟩)
                        ·skip
                         refine box_step ?hg (N := 6) ?hd (cs := #[.int .i64 0, .bool false, .bool false, .bool false, .bool false, .bool false, .bool false, .int .i64 0, .int .u64 0, .int .i64 0, .int .u64 0, .int .i64 0, .int .i64 0, .int .i64 0, .int .i64 0, .int .i64 0]) (t := 24) ?hr ?_; (case hd => rfl); (case hg => rfl); (case hr => first | (go_simp; done) | (go_simp; rfl))
                         intro gb411 hg w38 hbox hb
                         have n0_ := Aside0.mk (blk_below (g := gb400) (o := .cells #[.int .i64 0, .bool false, .bool false, .bool false, .bool false, .bool false, .bool false, .int .i64 0, .int .u64 0, .int .i64 0, .int .u64 0, .int .i64 0, .int .i64 0, .int .i64 0, .int .i64 0, .int .i64 0] 24 (0, 0)) qr hb)
                         have n1_ := Aside0.mk (below_step qbk hb)
                         have n2_ := Aside0.mk (hbox)
                         have n3_ := Aside0.mk ((qcr : w.heap.size ≤ gb411))
                         have n4_ := Aside0.mk ((qcr : w.heap.size ≤ gb411))
                         have n5_ := Aside0.mk ((qdf : gb400 ≠ gb411))
                         have n6_ := Aside0.mk ((qde : gb411 ≠ gb400))
                         clear BK400
                         clear HB
                         have BK400 := n0_
                         have HB := n1_
                         have BK411 := n2_
                         have GW411 := n3_
                         have GE411 := n4_
                         have NB400_411 := n5_
                         have NB411_400 := n6_
                         clear n0_ n1_ n2_ n3_ n4_ n5_ n6_
                         clear hb hbox hg
                         refine hK.out _ _ trivial (fun hHeld => ?_)
                         clear hK K
                         refine norm_ (a' := ?_) ?_ ?_
                         rotate_left
                         ·exact z21_4
                         exact norm_ qcg (hJ8_10_13_15_17_25 (gb411) _ ⟨qr, qu, GW411.out, GE411.out, NB400_411.out, NB411_400.out, qb7⟩)
                      ·skip
                       rintro gb411 w38 ⟨h0_, h1_, h2_, h3_, h4_, h5_, h6_⟩
                       have n0_ : Aside0 (w38.heap[gb400]? = some (.cells #[.int .i64 0, .bool false, .bool false, .bool false, .bool false, .bool false, .bool false, .int .i64 0, .int .u64 0, .int .i64 0, .int .u64 0, .int .i64 0, .int .i64 0, .int .i64 0, .int .i64 0, .int .i64 0] 24 (0, 0))) := ⟨h0_⟩
                       have n1_ : Aside0 (w38.heap[gb411]? = some (.cells #[.int .i64 0, .bool false, .bool false, .bool false, .bool false, .bool false, .bool false, .int .i64 0, .int .u64 0, .int .i64 0, .int .u64 0, .int .i64 0, .int .i64 0, .int .i64 0, .int .i64 0, .int .i64 0] 24 (0, 0))) := ⟨h1_⟩
                       have n2_ : Aside0 (w.heap.size ≤ gb411) := ⟨h2_⟩
                       have n3_ : Aside0 (w.heap.size ≤ gb411) := ⟨h3_⟩
                       have n4_ : Aside0 (gb400 ≠ gb411) := ⟨h4_⟩
                       have n5_ : Aside0 (gb411 ≠ gb400) := ⟨h5_⟩
                       have n6_ : Aside0 (Below w.heap.size w w38) := ⟨h6_⟩
                       clear BK400
                       clear HB
                       clear h0_ h1_ h2_ h3_ h4_ h5_ h6_
                       have BK400 := n0_
                       have BK411 := n1_
                       have GW411 := n2_
                       have GE411 := n3_
                       have NB400_411 := n4_
                       have NB411_400 := n5_
                       have HB := n6_
                       clear n0_ n1_ n2_ n3_ n4_ n5_ n6_
                       have hHeld := trivial
                       refine norm_ (a' := ?_) ?_ ?_
                       rotate_left
                       ·exact z21_3
                       refine one_ (i := 19) (N := some 61) #[true, true, true, true, true, true, true, true, true, true, true, true, true, true, true, true, true, true, true, true, true, false, true, false, false, true, false] rfl rfl (one_of HT_.out qf) qd (fun K hK => ?_)
                       refine goes_ Tryd.func29 qf rfl #[.string a0, .int .i64 32, .int .i64 34] qcx rfl rfl qbi ?_
                       with_reducible refine (gangwayref09_num.calls kj16 a0 32 34 t408 _ A32.out).mono ?_
                       rintro e w' ⟨rfl, ⟨nd, rfl⟩⟩
                       refine ⟨_, rfl, ?_⟩
                       refine hK.out _ _ trivial (fun hHeld => ?_)
                       clear hK K
                       refine norm_ (a' := ?_) ?_ ?_
                       rotate_left
                       ·exact z21_10
                       exact norm_ qcg (hJ8_10_13_15_17_19_25 (gb411) _ ⟨qr, qu, GW411.out, GE411.out, NB400_411.out, NB411_400.out, qb7⟩)
                     ·skip
                      rintro _ w37 ⟨h0_, h1_⟩
                      have n0_ : Aside0 (w37.heap[gb400]? = some (.cells #[.int .i64 0, .bool false, .bool false, .bool false, .bool false, .bool false, .bool false, .int .i64 0, .int .u64 0, .int .i64 0, .int .u64 0, .int .i64 0, .int .i64 0, .int .i64 0, .int .i64 0, .int .i64 0] 24 (0, 0))) := ⟨h0_⟩
                      have n1_ : Aside0 (Below w.heap.size w w37) := ⟨h1_⟩
                      clear BK400
                      clear HB
                      clear h0_ h1_
                      have BK400 := n0_
                      have HB := n1_
                      clear n0_ n1_
                      have hHeld := trivial
                      refine norm_ (a' := ?_) ?_ ?_
                      rotate_left
                      ·exact z21_3
                      refine two_ (i := 21) (j := 25) (Ni := some 63) (Nj := some 6) #[true, true, true, true, true, true, true, true, true, true, true, true, true, true, true, true, true, true, true, true, true, true, true, false, false, false, false] #[true, true, true, true, true, true, true, true, true, true, true, true, true, true, true, true, true, true, true, true, true, false, true, false, false, true, false] rfl rfl rfl rfl (two_of HT_.out qf) qd qd (fun K hK => ?_) (fun K hK => ?_)
                      ·skip
                       refine goes_ Tryd.func29 qf rfl #[.string a0, .int .i64 34, .int .i64 36] qcx rfl rfl qbi ?_
                       with_reducible refine (gangwayref09_num.calls kj16 a0 34 36 t409 _ A33.out).mono ?_
                       rintro e w' ⟨rfl, ⟨nd, rfl⟩⟩
                       refine ⟨_, rfl, ?_⟩
                       refine hK.out _ _ trivial (fun hHeld => ?_)
                       clear hK K
                       refine norm_ (a' := ?_) ?_ ?_
                       rotate_left
                       ·exact z21_11
                       exact norm_ qcg (hJ8_10_13_15_17_19_21 () _ ⟨qr, qbk⟩)
                      ·skip
                       refine box_step ?hg (N := 6) ?hd (cs := #[.int .i64 0, .bool false, .bool false, .bool false, .bool false, .bool false, .bool false, .int .i64 0, .int .u64 0, .int .i64 0, .int .u64 0, .int .i64 0, .int .i64 0, .int .i64 0, .int .i64 0, .int .i64 0]) (t := 24) ?hr ?_; (case hd => rfl); (case hg => rfl); (case hr => first | (go_simp; done) | (go_simp; rfl))
                       intro gb411 hg w38 hbox hb
                       have n0_ := Aside0.mk (blk_below (g := gb400) (o := .cells #[.int .i64 0, .bool false, .bool false, .bool false, .bool false, .bool false, .bool false, .int .i64 0, .int .u64 0, .int .i64 0, .int .u64 0, .int .i64 0, .int .i64 0, .int .i64 0, .int .i64 0, .int .i64 0] 24 (0, 0)) qr hb)
                       have n1_ := Aside0.mk (below_step qbk hb)
                       have n2_ := Aside0.mk (hbox)
                       have n3_ := Aside0.mk ((qcr : w.heap.size ≤ gb411))
                       have n4_ := Aside0.mk ((qcr : w.heap.size ≤ gb411))
                       have n5_ := Aside0.mk ((qdf : gb400 ≠ gb411))
                       have n6_ := Aside0.mk ((qde : gb411 ≠ gb400))
                       clear BK400
                       clear HB
                       have BK400 := n0_
                       have HB := n1_
                       have BK411 := n2_
                       have GW411 := n3_
                       have GE411 := n4_
                       have NB400_411 := n5_
                       have NB411_400 := n6_
                       clear n0_ n1_ n2_ n3_ n4_ n5_ n6_
                       clear hb hbox hg
                       refine hK.out _ _ trivial (fun hHeld => ?_)
                       clear hK K
                       refine norm_ (a' := ?_) ?_ ?_
                       rotate_left
                       ·exact z21_4
                       exact norm_ qcg (hJ8_10_13_15_17_19_25 (gb411) _ ⟨qr, qu, GW411.out, GE411.out, NB400_411.out, NB411_400.out, qb7⟩)
                    ·skip
                     rintro gb411 w38 ⟨h0_, h1_, h2_, h3_, h4_, h5_, h6_⟩
                     have n0_ : Aside0 (w38.heap[gb400]? = some (.cells #[.int .i64 0, .bool false, .bool false, .bool false, .bool false, .bool false, .bool false, .int .i64 0, .int .u64 0, .int .i64 0, .int .u64 0, .int .i64 0, .int .i64 0, .int .i64 0, .int .i64 0, .int .i64 0] 24 (0, 0))) := ⟨h0_⟩
                     have n1_ : Aside0 (w38.heap[gb411]? = some (.cells #[.int .i64 0, .bool false, .bool false, .bool false, .bool false, .bool false, .bool false, .int .i64 0, .int .u64 0, .int .i64 0, .int .u64 0, .int .i64 0, .int .i64 0, .int .i64 0, .int .i64 0, .int .i64 0] 24 (0, 0))) := ⟨h1_⟩
                     have n2_ : Aside0 (w.heap.size ≤ gb411) := ⟨h2_⟩
                     have n3_ : Aside0 (w.heap.size ≤ gb411) := ⟨h3_⟩
                     have n4_ : Aside0 (gb400 ≠ gb411) := ⟨h4_⟩
                     have n5_ : Aside0 (gb411 ≠ gb400) := ⟨h5_⟩
                     have n6_ : Aside0 (Below w.heap.size w w38) := ⟨h6_⟩
                     clear BK400
                     clear HB
                     clear h0_ h1_ h2_ h3_ h4_ h5_ h6_
                     have BK400 := n0_
                     have BK411 := n1_
                     have GW411 := n2_
                     have GE411 := n3_
                     have NB400_411 := n4_
                     have NB411_400 := n5_
                     have HB := n6_
                     clear n0_ n1_ n2_ n3_ n4_ n5_ n6_
                     have hHeld := trivial
                     refine norm_ (a' := ?_) ?_ ?_
                     rotate_left
                     ·exact z21_3
                     refine one_ (i := 21) (N := some 63) #[true, true, true, true, true, true, true, true, true, true, true, true, true, true, true, true, true, true, true, true, true, true, true, false, false, true, false] rfl rfl (one_of HT_.out qf) qd (fun K hK => ?_)
                     refine goes_ Tryd.func29 qf rfl #[.string a0, .int .i64 34, .int .i64 36] qcx rfl rfl qbi ?_
                     with_reducible refine (gangwayref09_num.calls kj16 a0 34 36 t409 _ A33.out).mono ?_
                     rintro e w' ⟨rfl, ⟨nd, rfl⟩⟩
                     refine ⟨_, rfl, ?_⟩
                     refine hK.out _ _ trivial (fun hHeld => ?_)
                     clear hK K
                     refine norm_ (a' := ?_) ?_ ?_
                     rotate_left
                     ·exact z21_11
                     exact norm_ qcg (hJ8_10_13_15_17_19_21_25 (gb411) _ ⟨qr, qu, GW411.out, GE411.out, NB400_411.out, NB411_400.out, qb7⟩)
                   ·skip
                    rintro _ w37 ⟨h0_, h1_⟩
                    have n0_ : Aside0 (w37.heap[gb400]? = some (.cells #[.int .i64 0, .bool false, .bool false, .bool false, .bool false, .bool false, .bool false, .int .i64 0, .int .u64 0, .int .i64 0, .int .u64 0, .int .i64 0, .int .i64 0, .int .i64 0, .int .i64 0, .int .i64 0] 24 (0, 0))) := ⟨h0_⟩
                    have n1_ : Aside0 (Below w.heap.size w w37) := ⟨h1_⟩
                    clear BK400
                    clear HB
                    clear h0_ h1_
                    have BK400 := n0_
                    have HB := n1_
                    clear n0_ n1_
                    have hHeld := trivial
                    refine norm_ (a' := ?_) ?_ ?_
                    rotate_left
                    ·exact z21_3
                    refine two_ (i := 23) (j := 25) (Ni := some 65) (Nj := some 6) #[true, true, true, true, true, true, true, true, true, true, true, true, true, true, true, true, true, true, true, true, true, true, true, true, false, false, false] #[true, true, true, true, true, true, true, true, true, true, true, true, true, true, true, true, true, true, true, true, true, true, true, false, false, true, false] rfl rfl rfl rfl (two_of HT_.out qf) qd qd (fun K hK => ?_) (fun K hK => ?_)
                    ·skip
                     refine goes_ Tryd.func29 qf rfl #[.string a0, .int .i64 36, .int .i64 38] qcx rfl rfl qbi ?_
                     with_reducible refine (gangwayref09_num.calls kj16 a0 36 38 t410 _ A34.out).mono ?_
                     rintro e w' ⟨rfl, ⟨nd, rfl⟩⟩
                     refine ⟨_, rfl, ?_⟩
                     refine hK.out _ _ trivial (fun hHeld => ?_)
                     clear hK K
                     refine norm_ (a' := ?_) ?_ ?_
                     rotate_left
                     ·exact z21_12
                     refine pure_ (i := 24) (N := some 66) (v := ?_) (a' := ?_) #[true, true, true, true, true, true, true, true, true, true, true, true, true, true, true, true, true, true, true, true, true, true, true, true, true, false, false] rfl rfl (any_of HT_.out qf) (fun _ _ _ h => h) (Or.inl ⟨by rfl, ?_⟩) ?_ ?_
                     rotate_left
                     ·exact z21_0
                     rotate_left
                     ·exact z21_2
                     exact norm_ qcg (hJ8_10_13_15_17_19_21_23 () _ ⟨qr, qbk⟩)
                    ·skip
                     refine box_step ?hg (N := 6) ?hd (cs := #[.int .i64 0, .bool false, .bool false, .bool false, .bool false, .bool false, .bool false, .int .i64 0, .int .u64 0, .int .i64 0, .int .u64 0, .int .i64 0, .int .i64 0, .int .i64 0, .int .i64 0, .int .i64 0]) (t := 24) ?hr ?_; (case hd => rfl); (case hg => rfl); (case hr => first | (go_simp; done) | (go_simp; rfl))
                     intro gb411 hg w38 hbox hb
                     have n0_ := Aside0.mk (blk_below (g := gb400) (o := .cells #[.int .i64 0, .bool false, .bool false, .bool false, .bool false, .bool false, .bool false, .int .i64 0, .int .u64 0, .int .i64 0, .int .u64 0, .int .i64 0, .int .i64 0, .int .i64 0, .int .i64 0, .int .i64 0] 24 (0, 0)) qr hb)
                     have n1_ := Aside0.mk (below_step qbk hb)
                     have n2_ := Aside0.mk (hbox)
                     have n3_ := Aside0.mk ((qcr : w.heap.size ≤ gb411))
                     have n4_ := Aside0.mk ((qcr : w.heap.size ≤ gb411))
                     have n5_ := Aside0.mk ((qdf : gb400 ≠ gb411))
                     have n6_ := Aside0.mk ((qde : gb411 ≠ gb400))
                     clear BK400
                     clear HB
                     have BK400 := n0_
                     have HB := n1_
                     have BK411 := n2_
                     have GW411 := n3_
                     have GE411 := n4_
                     have NB400_411 := n5_
                     have NB411_400 := n6_
                     clear n0_ n1_ n2_ n3_ n4_ n5_ n6_
                     clear hb hbox hg
                     refine hK.out _ _ trivial (fun hHeld => ?_)
                     clear hK K
                     refine norm_ (a' := ?_) ?_ ?_
                     rotate_left
                     ·exact z21_4
                     exact norm_ qcg (hJ8_10_13_15_17_19_21_25 (gb411) _ ⟨qr, qu, GW411.out, GE411.out, NB400_411.out, NB411_400.out, qb7⟩)
                  ·skip
                   rintro gb411 w38 ⟨h0_, h1_, h2_, h3_, h4_, h5_, h6_⟩
                   have n0_ : Aside0 (w38.heap[gb400]? = some (.cells #[.int .i64 0, .bool false, .bool false, .bool false, .bool false, .bool false, .bool false, .int .i64 0, .int .u64 0, .int .i64 0, .int .u64 0, .int .i64 0, .int .i64 0, .int .i64 0, .int .i64 0, .int .i64 0] 24 (0, 0))) := ⟨h0_⟩
                   have n1_ : Aside0 (w38.heap[gb411]? = some (.cells #[.int .i64 0, .bool false, .bool false, .bool false, .bool false, .bool false, .bool false, .int .i64 0, .int .u64 0, .int .i64 0, .int .u64 0, .int .i64 0, .int .i64 0, .int .i64 0, .int .i64 0, .int .i64 0] 24 (0, 0))) := ⟨h1_⟩
                   have n2_ : Aside0 (w.heap.size ≤ gb411) := ⟨h2_⟩
                   have n3_ : Aside0 (w.heap.size ≤ gb411) := ⟨h3_⟩
                   have n4_ : Aside0 (gb400 ≠ gb411) := ⟨h4_⟩
                   have n5_ : Aside0 (gb411 ≠ gb400) := ⟨h5_⟩
                   have n6_ : Aside0 (Below w.heap.size w w38) := ⟨h6_⟩
                   clear BK400
                   clear HB
                   clear h0_ h1_ h2_ h3_ h4_ h5_ h6_
                   have BK400 := n0_
                   have BK411 := n1_
                   have GW411 := n2_
                   have GE411 := n3_
                   have NB400_411 := n4_
                   have NB411_400 := n5_
                   have HB := n6_
                   clear n0_ n1_ n2_ n3_ n4_ n5_ n6_
                   have hHeld := trivial
                   refine norm_ (a' := ?_) ?_ ?_
                   rotate_left
                   ·exact z21_3
                   refine one_ (i := 23) (N := some 65) #[true, true, true, true, true, true, true, true, true, true, true, true, true, true, true, true, true, true, true, true, true, true, true, true, false, true, false] rfl rfl (one_of HT_.out qf) qd (fun K hK => ?_)
                   refine goes_ Tryd.func29 qf rfl #[.string a0, .int .i64 36, .int .i64 38] qcx rfl rfl qbi ?_
                   with_reducible refine (gangwayref09_num.calls kj16 a0 36 38 t410 _ A34.out).mono ?_
                   rintro e w' ⟨rfl, ⟨nd, rfl⟩⟩
                   refine ⟨_, rfl, ?_⟩
                   refine hK.out _ _ trivial (fun hHeld => ?_)
                   clear hK K
                   refine norm_ (a' := ?_) ?_ ?_
                   rotate_left
                   ·exact z21_12
                   refine pure_ (i := 24) (N := some 66) (v := ?_) (a' := ?_) #[true, true, true, true, true, true, true, true, true, true, true, true, true, true, true, true, true, true, true, true, true, true, true, true, true, true, false] rfl rfl (any_of HT_.out qf) (fun _ _ _ h => h) (Or.inl ⟨by rfl, ?_⟩) ?_ ?_
                   rotate_left
                   ·exact z21_0
                   rotate_left
                   ·exact z21_2
                   exact norm_ qcg (hJ8_10_13_15_17_19_21_23_25 (gb411) _ ⟨qr, qu, GW411.out, GE411.out, NB400_411.out, NB411_400.out, qb7⟩)
                 ·skip
                  rintro _ w37 ⟨h0_, h1_⟩
                  have n0_ : Aside0 (w37.heap[gb400]? = some (.cells #[.int .i64 0, .bool false, .bool false, .bool false, .bool false, .bool false, .bool false, .int .i64 0, .int .u64 0, .int .i64 0, .int .u64 0, .int .i64 0, .int .i64 0, .int .i64 0, .int .i64 0, .int .i64 0] 24 (0, 0))) := ⟨h0_⟩
                  have n1_ : Aside0 (Below w.heap.size w w37) := ⟨h1_⟩
                  clear BK400
                  clear HB
                  clear h0_ h1_
                  have BK400 := n0_
                  have HB := n1_
                  clear n0_ n1_
                  have hHeld := trivial
                  refine norm_ (a' := ?_) ?_ ?_
                  rotate_left
                  ·exact z21_3
                  refine one_ (i := 25) (N := some 6) #[true, true, true, true, true, true, true, true, true, true, true, true, true, true, true, true, true, true, true, true, true, true, true, true, true, true, false] rfl rfl (one_of HT_.out qf) qd (fun K hK => ?_)
                  refine box_step ?hg (N := 6) ?hd (cs := #[.int .i64 0, .bool false, .bool false, .bool false, .bool false, .bool false, .bool false, .int .i64 0, .int .u64 0, .int .i64 0, .int .u64 0, .int .i64 0, .int .i64 0, .int .i64 0, .int .i64 0, .int .i64 0]) (t := 24) ?hr ?_; (case hd => rfl); (case hg => rfl); (case hr => first | (go_simp; done) | (go_simp; rfl))
                  intro gb411 hg w38 hbox hb
                  have n0_ := Aside0.mk (blk_below (g := gb400) (o := .cells #[.int .i64 0, .bool false, .bool false, .bool false, .bool false, .bool false, .bool false, .int .i64 0, .int .u64 0, .int .i64 0, .int .u64 0, .int .i64 0, .int .i64 0, .int .i64 0, .int .i64 0, .int .i64 0] 24 (0, 0)) qr hb)
                  have n1_ := Aside0.mk (below_step qbk hb)
                  have n2_ := Aside0.mk (hbox)
                  have n3_ := Aside0.mk ((qcr : w.heap.size ≤ gb411))
                  have n4_ := Aside0.mk ((qcr : w.heap.size ≤ gb411))
                  have n5_ := Aside0.mk ((qdf : gb400 ≠ gb411))
                  have n6_ := Aside0.mk ((qde : gb411 ≠ gb400))
                  clear BK400
                  clear HB
                  have BK400 := n0_
                  have HB := n1_
                  have BK411 := n2_
                  have GW411 := n3_
                  have GE411 := n4_
                  have NB400_411 := n5_
                  have NB411_400 := n6_
                  clear n0_ n1_ n2_ n3_ n4_ n5_ n6_
                  clear hb hbox hg
                  refine hK.out _ _ trivial (fun hHeld => ?_)
                  clear hK K
                  refine norm_ (a' := ?_) ?_ ?_
                  rotate_left
                  ·exact z21_4
                  exact norm_ qcg (hJ8_10_13_15_17_19_21_23_25 (gb411) _ ⟨qr, qu, GW411.out, GE411.out, NB400_411.out, NB411_400.out, qb7⟩)
                rintro gb411 w38 ⟨h0_, h1_, h2_, h3_, h4_, h5_, h6_⟩
                have n0_ : Aside0 (w38.heap[gb400]? = some (.cells #[.int .i64 0, .bool false, .bool false, .bool false, .bool false, .bool false, .bool false, .int .i64 0, .int .u64 0, .int .i64 0, .int .u64 0, .int .i64 0, .int .i64 0, .int .i64 0, .int .i64 0, .int .i64 0] 24 (0, 0))) := ⟨h0_⟩
                have n1_ : Aside0 (w38.heap[gb411]? = some (.cells #[.int .i64 0, .bool false, .bool false, .bool false, .bool false, .bool false, .bool false, .int .i64 0, .int .u64 0, .int .i64 0, .int .u64 0, .int .i64 0, .int .i64 0, .int .i64 0, .int .i64 0, .int .i64 0] 24 (0, 0))) := ⟨h1_⟩
                have n2_ : Aside0 (w.heap.size ≤ gb411) := ⟨h2_⟩
                have n3_ : Aside0 (w.heap.size ≤ gb411) := ⟨h3_⟩
                have n4_ : Aside0 (gb400 ≠ gb411) := ⟨h4_⟩
                have n5_ : Aside0 (gb411 ≠ gb400) := ⟨h5_⟩
                have n6_ : Aside0 (Below w.heap.size w w38) := ⟨h6_⟩
                clear BK400
                clear HB
                clear h0_ h1_ h2_ h3_ h4_ h5_ h6_
                have BK400 := n0_
                have BK411 := n1_
                have GW411 := n2_
                have GE411 := n3_
                have NB400_411 := n4_
                have NB411_400 := n5_
                have HB := n6_
                clear n0_ n1_ n2_ n3_ n4_ n5_ n6_
                have hHeld := trivial
                refine norm_ (a' := ?_) ?_ ?_
                rotate_left
                ·exact z21_3
                refine one_ (i := 26) (N := none) #[true, true, true, true, true, true, true, true, true, true, true, true, true, true, true, true, true, true, true, true, true, true, true, true, true, true, true] rfl rfl (one_of HT_.out qf) qd (fun K hK => ?_)
                have hs39 : w38.cell? ⟨gb411, 0, none⟩ = some (.int .i64 0) := (blk_cell BK411.out 0).trans rfl
                have hfs39 := blk_frozen BK411.out 0
                have hns39_0 := NB400_411.out
                have hms39_0 := NB411_400.out
                have hs40 : w38.cell? ⟨gb411, 1, none⟩ = some (.bool false) := (blk_cell BK411.out 1).trans rfl
                have hfs40 := blk_frozen BK411.out 1
                have hns40_0 := NB400_411.out
                have hms40_0 := NB411_400.out
                have hs41 : w38.cell? ⟨gb411, 2, none⟩ = some (.bool false) := (blk_cell BK411.out 2).trans rfl
                have hfs41 := blk_frozen BK411.out 2
                have hns41_0 := NB400_411.out
                have hms41_0 := NB411_400.out
                have hs42 : w38.cell? ⟨gb411, 3, none⟩ = some (.bool false) := (blk_cell BK411.out 3).trans rfl
                have hfs42 := blk_frozen BK411.out 3
                have hns42_0 := NB400_411.out
                have hms42_0 := NB411_400.out
                have hs43 : w38.cell? ⟨gb411, 4, none⟩ = some (.bool false) := (blk_cell BK411.out 4).trans rfl
                have hfs43 := blk_frozen BK411.out 4
                have hns43_0 := NB400_411.out
                have hms43_0 := NB411_400.out
                have hs44 : w38.cell? ⟨gb411, 5, none⟩ = some (.bool false) := (blk_cell BK411.out 5).trans rfl
                have hfs44 := blk_frozen BK411.out 5
                have hns44_0 := NB400_411.out
                have hms44_0 := NB411_400.out
                have hs45 : w38.cell? ⟨gb411, 6, none⟩ = some (.bool false) := (blk_cell BK411.out 6).trans rfl
                have hfs45 := blk_frozen BK411.out 6
                have hns45_0 := NB400_411.out
                have hms45_0 := NB411_400.out
                have hs46 : w38.cell? ⟨gb411, 7, none⟩ = some (.int .i64 0) := (blk_cell BK411.out 7).trans rfl
                have hfs46 := blk_frozen BK411.out 7
                have hns46_0 := NB400_411.out
                have hms46_0 := NB411_400.out
                have hs47 : w38.cell? ⟨gb411, 8, none⟩ = some (.int .u64 0) := (blk_cell BK411.out 8).trans rfl
                have hfs47 := blk_frozen BK411.out 8
                have hns47_0 := NB400_411.out
                have hms47_0 := NB411_400.out
                have hs48 : w38.cell? ⟨gb411, 9, none⟩ = some (.int .i64 0) := (blk_cell BK411.out 9).trans rfl
                have hfs48 := blk_frozen BK411.out 9
                have hns48_0 := NB400_411.out
                have hms48_0 := NB411_400.out
                have hs49 : w38.cell? ⟨gb411, 10, none⟩ = some (.int .u64 0) := (blk_cell BK411.out 10).trans rfl
                have hfs49 := blk_frozen BK411.out 10
                have hns49_0 := NB400_411.out
                have hms49_0 := NB411_400.out
                have hs50 : w38.cell? ⟨gb411, 11, none⟩ = some (.int .i64 0) := (blk_cell BK411.out 11).trans rfl
                have hfs50 := blk_frozen BK411.out 11
                have hns50_0 := NB400_411.out
                have hms50_0 := NB411_400.out
                have hs51 : w38.cell? ⟨gb411, 12, none⟩ = some (.int .i64 0) := (blk_cell BK411.out 12).trans rfl
                have hfs51 := blk_frozen BK411.out 12
                have hns51_0 := NB400_411.out
                have hms51_0 := NB411_400.out
                have hs52 : w38.cell? ⟨gb411, 13, none⟩ = some (.int .i64 0) := (blk_cell BK411.out 13).trans rfl
                have hfs52 := blk_frozen BK411.out 13
                have hns52_0 := NB400_411.out
                have hms52_0 := NB411_400.out
                have hs53 : w38.cell? ⟨gb411, 14, none⟩ = some (.int .i64 0) := (blk_cell BK411.out 14).trans rfl
                have hfs53 := blk_frozen BK411.out 14
                have hns53_0 := NB400_411.out
                have hms53_0 := NB411_400.out
                have hs54 : w38.cell? ⟨gb411, 15, none⟩ = some (.int .i64 0) := (blk_cell BK411.out 15).trans rfl
                have hfs54 := blk_frozen BK411.out 15
                have hns54_0 := NB400_411.out
                have hms54_0 := NB411_400.out
                refine skip_ (w1 := ?_) qa rfl ?_ ?_
                rotate_left
                ·go_simp
                 rfl
                refine hK.out _ _ trivial (fun hHeld => ?_)
                clear hK K
                refine done_ (done_of HT_.out qf) ?_
                go_upto_region 14 with (fail)
                go_cut [68] (fun v68 wc => ∃ (kq : Nat) (x68_34 : Bool), v68 = .bool x68_34 ∧ Aside0 (gangwayref09_Parse.j2 kq t402 x68_34 0 ((Int.tmod t402 2) == 1) false false false false ((wrap64 (Int.tdiv t402 128)) == 1) 0 t403 t404 t405 t406 t407 t408 t409 t410 = some (r1, r2, r3, r4, r5, r6, r7, r8, r9, r10, r11, r12, r13, r14, r15, r16, r17)) ∧ Aside0 (kq ≤ kj16) ∧ Aside0 (wc.heap[gb400]? = some (.cells #[.int .i64 0, .bool false, .bool false, .bool false, .bool false, .bool false, .bool false, .int .i64 0, .int .u64 0, .int .i64 0, .int .u64 0, .int .i64 0, .int .i64 0, .int .i64 0, .int .i64 0, .int .i64 0] 24 (0, 0))) ∧ Aside0 (wc.heap[gb411]? = some (.cells #[.int .i64 0, .bool ((Int.tmod t402 2) == 1), .bool false, .bool false, .bool false, .bool false, .bool ((wrap64 (Int.tdiv t402 128)) == 1), .int .i64 0, .int .u64 t403, .int .i64 t404, .int .u64 t405, .int .i64 t406, .int .i64 t407, .int .i64 t408, .int .i64 t409, .int .i64 t410] 24 (0, 0))) ∧ Aside0 (Below w.heap.size w wc))
                case first =>
                 have H := HC35.out
                 clear HC35
                 have H' := Aside0.mk H
                 clear H
                 go_wp2_with (first | ((with_reducible refine gate_st (ty := 24) rfl ?_); refine storeC16 rfl rfl rfl rfl rfl qb1 qo qf rfl ?_) | ((with_reducible refine gate_ld (ty := 24) rfl ?_); (try (with_reducible refine gate_gd rfl ?_; refine gate_guard qc8 ?_; dsimp only)); refine load_st rfl rfl rfl qb1 qo Tryd.underlying24 rfl qf ?_; (try simp only [Act.put, List.setIfInBounds_toArray, List.set_cons_zero, List.set_cons_succ])) | go_in)
                 go_meet
                 case rel => exact ⟨_, ((t401 != 0)), qk, H', ⟨by have := HJ11.out; have := HJ16.out; first | omega | exact Nat.le_refl _⟩, ⟨by (with_reducible repeat (first | refine blk_drewN ?_ _ | refine blk_drew ?_ | refine blk_alloc ?_ _ | refine blk_far ?_ NB400_411.out _)); exact BK400.out⟩, ⟨by (with_reducible repeat (first | refine blk_drewN ?_ _ | refine blk_drew ?_ | refine blk_alloc ?_ _)); exact put16_0_16 qu⟩, ⟨by repeat (first | (with_reducible first | exact HB.out | apply below_alloc | apply pw_below_drewN | apply below_drew1 | refine below_set ?_ GE400.out | refine below_set ?_ GE411.out) | exact HB.out)⟩⟩
                case rest =>
                 clear HC35
                 try clear c2
                 try clear p2
                 try clear p6
                 try clear c29
                 obtain ⟨kq, x68_34, rfl, HA, HJ34, BK400, BK411, HB⟩ := hcut
                 cases kq with
                 | zero => exact absurd HA.out (by simp [gangwayref09_Parse.j2])
                 | succ kj34 =>
                  have H := HA.out
                  clear HA
                  simp only [gangwayref09_Parse.j2] at H
                  by_cases c55 : x68_34 = true
                  ·subst c55
                   rw [if_pos rfl] at H
                   simp only [Option.some.injEq, Prod.mk.injEq] at H
                   obtain ⟨rfl, rfl, rfl, rfl, rfl, rfl, rfl, rfl, rfl, rfl, rfl, rfl, rfl, rfl, rfl, rfl, rfl⟩ := H
                   have hnb56 := NB411_400.out
                   have hnc56 := NB400_411.out
                   obtain ⟨hcz57_0, hcz57_1, hcz57_2, hcz57_3, hcz57_4, hcz57_5, hcz57_6, hcz57_7, hcz57_8, hcz57_9, hcz57_10, hcz57_11, hcz57_12, hcz57_13, hcz57_14, hcz57_15⟩ := cells16 BK411.out
                   obtain ⟨hfz57_0, hfz57_1, hfz57_2, hfz57_3, hfz57_4, hfz57_5, hfz57_6, hfz57_7, hfz57_8, hfz57_9, hfz57_10, hfz57_11, hfz57_12, hfz57_13, hfz57_14, hfz57_15⟩ := frozen16 BK411.out
                   obtain ⟨hcz58_0, hcz58_1, hcz58_2, hcz58_3, hcz58_4, hcz58_5, hcz58_6, hcz58_7, hcz58_8, hcz58_9, hcz58_10, hcz58_11, hcz58_12, hcz58_13, hcz58_14, hcz58_15⟩ := cells16 BK400.out
                   obtain ⟨hfz58_0, hfz58_1, hfz58_2, hfz58_3, hfz58_4, hfz58_5, hfz58_6, hfz58_7, hfz58_8, hfz58_9, hfz58_10, hfz58_11, hfz58_12, hfz58_13, hfz58_14, hfz58_15⟩ := frozen16 BK400.out
                   go_wp2_with (first | ((with_reducible refine gate_st (ty := 24) rfl ?_); refine storeC16 rfl rfl rfl rfl rfl qb1 qo qf rfl ?_) | ((with_reducible refine gate_ld (ty := 24) rfl ?_); (try (with_reducible refine gate_gd rfl ?_; refine gate_guard qc8 ?_; dsimp only)); refine load_st rfl rfl rfl qb1 qo Tryd.underlying24 rfl qf ?_; (try simp only [Act.put, List.setIfInBounds_toArray, List.set_cons_zero, List.set_cons_succ])) | go_in)
                   refine bodyPost_ret (results_ct rfl _ _ gb400 24 #[.int .i64 2, .bool ((Int.tmod t402 2) == 1), .bool ((Int.tmod (wrap64 (Int.tdiv t402 2)) 2) == 1), .bool ((Int.tmod (wrap64 (Int.tdiv t402 16)) 2) == 1), .bool ((Int.tmod (wrap64 (Int.tdiv t402 32)) 2) == 1), .bool ((Int.tmod (wrap64 (Int.tdiv t402 64)) 2) == 1), .bool ((wrap64 (Int.tdiv t402 128)) == 1), .int .i64 (Int.tmod (wrap64 (Int.tdiv t402 4)) 4), .int .u64 t403, .int .i64 t404, .int .u64 t405, .int .i64 t406, .int .i64 t407, .int .i64 t408, .int .i64 t409, .int .i64 t410] (0, 0) _ rfl (by (with_reducible repeat (first | refine blk_drewN ?_ _ | refine blk_drew ?_ | refine blk_alloc ?_ _)); refine blk_put (cs := #[.int .i64 2, .bool ((Int.tmod t402 2) == 1), .bool ((Int.tmod (wrap64 (Int.tdiv t402 2)) 2) == 1), .bool ((Int.tmod (wrap64 (Int.tdiv t402 16)) 2) == 1), .bool ((Int.tmod (wrap64 (Int.tdiv t402 32)) 2) == 1), .bool ((Int.tmod (wrap64 (Int.tdiv t402 64)) 2) == 1), .bool ((wrap64 (Int.tdiv t402 128)) == 1), .int .i64 (Int.tmod (wrap64 (Int.tdiv t402 4)) 4), .int .u64 t403, .int .i64 t404, .int .u64 t405, .int .i64 t406, .int .i64 t407, .int .i64 t408, .int .i64 t409, .int .i64 0]) ?_ 15 _ rfl; (with_reducible repeat (first | refine blk_drewN ?_ _ | refine blk_drew ?_ | refine blk_alloc ?_ _)); refine blk_put (cs := #[.int .i64 2, .bool ((Int.tmod t402 2) == 1), .bool ((Int.tmod (wrap64 (Int.tdiv t402 2)) 2) == 1), .bool ((Int.tmod (wrap64 (Int.tdiv t402 16)) 2) == 1), .bool ((Int.tmod (wrap64 (Int.tdiv t402 32)) 2) == 1), .bool ((Int.tmod (wrap64 (Int.tdiv t402 64)) 2) == 1), .bool ((wrap64 (Int.tdiv t402 128)) == 1), .int .i64 (Int.tmod (wrap64 (Int.tdiv t402 4)) 4), .int .u64 t403, .int .i64 t404, .int .u64 t405, .int .i64 t406, .int .i64 t407, .int .i64 t408, .int .i64 0, .int .i64 0]) ?_ 14 _ rfl; (with_reducible repeat (first | refine blk_drewN ?_ _ | refine blk_drew ?_ | refine blk_alloc ?_ _)); refine blk_put (cs := #[.int .i64 2, .bool ((Int.tmod t402 2) == 1), .bool ((Int.tmod (wrap64 (Int.tdiv t402 2)) 2) == 1), .bool ((Int.tmod (wrap64 (Int.tdiv t402 16)) 2) == 1), .bool ((Int.tmod (wrap64 (Int.tdiv t402 32)) 2) == 1), .bool ((Int.tmod (wrap64 (Int.tdiv t402 64)) 2) == 1), .bool ((wrap64 (Int.tdiv t402 128)) == 1), .int .i64 (Int.tmod (wrap64 (Int.tdiv t402 4)) 4), .int .u64 t403, .int .i64 t404, .int .u64 t405, .int .i64 t406, .int .i64 t407, .int .i64 0, .int .i64 0, .int .i64 0]) ?_ 13 _ rfl; (with_reducible repeat (first | refine blk_drewN ?_ _ | refine blk_drew ?_ | refine blk_alloc ?_ _)); refine blk_put (cs := #[.int .i64 2, .bool ((Int.tmod t402 2) == 1), .bool ((Int.tmod (wrap64 (Int.tdiv t402 2)) 2) == 1), .bool ((Int.tmod (wrap64 (Int.tdiv t402 16)) 2) == 1), .bool ((Int.tmod (wrap64 (Int.tdiv t402 32)) 2) == 1), .bool ((Int.tmod (wrap64 (Int.tdiv t402 64)) 2) == 1), .bool ((wrap64 (Int.tdiv t402 128)) == 1), .int .i64 (Int.tmod (wrap64 (Int.tdiv t402 4)) 4), .int .u64 t403, .int .i64 t404, .int .u64 t405, .int .i64 t406, .int .i64 0, .int .i64 0, .int .i64 0, .int .i64 0]) ?_ 12 _ rfl; (with_reducible repeat (first | refine blk_drewN ?_ _ | refine blk_drew ?_ | refine blk_alloc ?_ _)); refine blk_put (cs := #[.int .i64 2, .bool ((Int.tmod t402 2) == 1), .bool ((Int.tmod (wrap64 (Int.tdiv t402 2)) 2) == 1), .bool ((Int.tmod (wrap64 (Int.tdiv t402 16)) 2) == 1), .bool ((Int.tmod (wrap64 (Int.tdiv t402 32)) 2) == 1), .bool ((Int.tmod (wrap64 (Int.tdiv t402 64)) 2) == 1), .bool ((wrap64 (Int.tdiv t402 128)) == 1), .int .i64 (Int.tmod (wrap64 (Int.tdiv t402 4)) 4), .int .u64 t403, .int .i64 t404, .int .u64 t405, .int .i64 0, .int .i64 0, .int .i64 0, .int .i64 0, .int .i64 0]) ?_ 11 _ rfl; (with_reducible repeat (first | refine blk_drewN ?_ _ | refine blk_drew ?_ | refine blk_alloc ?_ _)); refine blk_put (cs := #[.int .i64 2, .bool ((Int.tmod t402 2) == 1), .bool ((Int.tmod (wrap64 (Int.tdiv t402 2)) 2) == 1), .bool ((Int.tmod (wrap64 (Int.tdiv t402 16)) 2) == 1), .bool ((Int.tmod (wrap64 (Int.tdiv t402 32)) 2) == 1), .bool ((Int.tmod (wrap64 (Int.tdiv t402 64)) 2) == 1), .bool ((wrap64 (Int.tdiv t402 128)) == 1), .int .i64 (Int.tmod (wrap64 (Int.tdiv t402 4)) 4), .int .u64 t403, .int .i64 t404, .int .u64 0, .int .i64 0, .int .i64 0, .int .i64 0, .int .i64 0, .int .i64 0]) ?_ 10 _ rfl; (with_reducible repeat (first | refine blk_drewN ?_ _ | refine blk_drew ?_ | refine blk_alloc ?_ _)); refine blk_put (cs := #[.int .i64 2, .bool ((Int.tmod t402 2) == 1), .bool ((Int.tmod (wrap64 (Int.tdiv t402 2)) 2) == 1), .bool ((Int.tmod (wrap64 (Int.tdiv t402 16)) 2) == 1), .bool ((Int.tmod (wrap64 (Int.tdiv t402 32)) 2) == 1), .bool ((Int.tmod (wrap64 (Int.tdiv t402 64)) 2) == 1), .bool ((wrap64 (Int.tdiv t402 128)) == 1), .int .i64 (Int.tmod (wrap64 (Int.tdiv t402 4)) 4), .int .u64 t403, .int .i64 0, .int .u64 0, .int .i64 0, .int .i64 0, .int .i64 0, .int .i64 0, .int .i64 0]) ?_ 9 _ rfl; (with_reducible repeat (first | refine blk_drewN ?_ _ | refine blk_drew ?_ | refine blk_alloc ?_ _)); refine blk_put (cs := #[.int .i64 2, .bool ((Int.tmod t402 2) == 1), .bool ((Int.tmod (wrap64 (Int.tdiv t402 2)) 2) == 1), .bool ((Int.tmod (wrap64 (Int.tdiv t402 16)) 2) == 1), .bool ((Int.tmod (wrap64 (Int.tdiv t402 32)) 2) == 1), .bool ((Int.tmod (wrap64 (Int.tdiv t402 64)) 2) == 1), .bool ((wrap64 (Int.tdiv t402 128)) == 1), .int .i64 (Int.tmod (wrap64 (Int.tdiv t402 4)) 4), .int .u64 0, .int .i64 0, .int .u64 0, .int .i64 0, .int .i64 0, .int .i64 0, .int .i64 0, .int .i64 0]) ?_ 8 _ rfl; (with_reducible repeat (first | refine blk_drewN ?_ _ | refine blk_drew ?_ | refine blk_alloc ?_ _)); refine blk_put (cs := #[.int .i64 2, .bool ((Int.tmod t402 2) == 1), .bool ((Int.tmod (wrap64 (Int.tdiv t402 2)) 2) == 1), .bool ((Int.tmod (wrap64 (Int.tdiv t402 16)) 2) == 1), .bool ((Int.tmod (wrap64 (Int.tdiv t402 32)) 2) == 1), .bool ((Int.tmod (wrap64 (Int.tdiv t402 64)) 2) == 1), .bool ((wrap64 (Int.tdiv t402 128)) == 1), .int .i64 0, .int .u64 0, .int .i64 0, .int .u64 0, .int .i64 0, .int .i64 0, .int .i64 0, .int .i64 0, .int .i64 0]) ?_ 7 _ rfl; (with_reducible repeat (first | refine blk_drewN ?_ _ | refine blk_drew ?_ | refine blk_alloc ?_ _)); refine blk_put (cs := #[.int .i64 2, .bool ((Int.tmod t402 2) == 1), .bool ((Int.tmod (wrap64 (Int.tdiv t402 2)) 2) == 1), .bool ((Int.tmod (wrap64 (Int.tdiv t402 16)) 2) == 1), .bool ((Int.tmod (wrap64 (Int.tdiv t402 32)) 2) == 1), .bool ((Int.tmod (wrap64 (Int.tdiv t402 64)) 2) == 1), .bool false, .int .i64 0, .int .u64 0, .int .i64 0, .int .u64 0, .int .i64 0, .int .i64 0, .int .i64 0, .int .i64 0, .int .i64 0]) ?_ 6 _ rfl; (with_reducible repeat (first | refine blk_drewN ?_ _ | refine blk_drew ?_ | refine blk_alloc ?_ _)); refine blk_put (cs := #[.int .i64 2, .bool ((Int.tmod t402 2) == 1), .bool ((Int.tmod (wrap64 (Int.tdiv t402 2)) 2) == 1), .bool ((Int.tmod (wrap64 (Int.tdiv t402 16)) 2) == 1), .bool ((Int.tmod (wrap64 (Int.tdiv t402 32)) 2) == 1), .bool false, .bool false, .int .i64 0, .int .u64 0, .int .i64 0, .int .u64 0, .int .i64 0, .int .i64 0, .int .i64 0, .int .i64 0, .int .i64 0]) ?_ 5 _ rfl; (with_reducible repeat (first | refine blk_drewN ?_ _ | refine blk_drew ?_ | refine blk_alloc ?_ _)); refine blk_put (cs := #[.int .i64 2, .bool ((Int.tmod t402 2) == 1), .bool ((Int.tmod (wrap64 (Int.tdiv t402 2)) 2) == 1), .bool ((Int.tmod (wrap64 (Int.tdiv t402 16)) 2) == 1), .bool false, .bool false, .bool false, .int .i64 0, .int .u64 0, .int .i64 0, .int .u64 0, .int .i64 0, .int .i64 0, .int .i64 0, .int .i64 0, .int .i64 0]) ?_ 4 _ rfl; (with_reducible repeat (first | refine blk_drewN ?_ _ | refine blk_drew ?_ | refine blk_alloc ?_ _)); refine blk_put (cs := #[.int .i64 2, .bool ((Int.tmod t402 2) == 1), .bool ((Int.tmod (wrap64 (Int.tdiv t402 2)) 2) == 1), .bool false, .bool false, .bool false, .bool false, .int .i64 0, .int .u64 0, .int .i64 0, .int .u64 0, .int .i64 0, .int .i64 0, .int .i64 0, .int .i64 0, .int .i64 0]) ?_ 3 _ rfl; (with_reducible repeat (first | refine blk_drewN ?_ _ | refine blk_drew ?_ | refine blk_alloc ?_ _)); refine blk_put (cs := #[.int .i64 2, .bool ((Int.tmod t402 2) == 1), .bool false, .bool false, .bool false, .bool false, .bool false, .int .i64 0, .int .u64 0, .int .i64 0, .int .u64 0, .int .i64 0, .int .i64 0, .int .i64 0, .int .i64 0, .int .i64 0]) ?_ 2 _ rfl; (with_reducible repeat (first | refine blk_drewN ?_ _ | refine blk_drew ?_ | refine blk_alloc ?_ _)); refine blk_put (cs := #[.int .i64 2, .bool false, .bool false, .bool false, .bool false, .bool false, .bool false, .int .i64 0, .int .u64 0, .int .i64 0, .int .u64 0, .int .i64 0, .int .i64 0, .int .i64 0, .int .i64 0, .int .i64 0]) ?_ 1 _ rfl; (with_reducible repeat (first | refine blk_drewN ?_ _ | refine blk_drew ?_ | refine blk_alloc ?_ _)); refine blk_put (cs := #[.int .i64 0, .bool false, .bool false, .bool false, .bool false, .bool false, .bool false, .int .i64 0, .int .u64 0, .int .i64 0, .int .u64 0, .int .i64 0, .int .i64 0, .int .i64 0, .int .i64 0, .int .i64 0]) ?_ 0 _ rfl; (with_reducible repeat (first | refine blk_drewN ?_ _ | refine blk_drew ?_ | refine blk_alloc ?_ _ | refine blk_far ?_ NB400_411.out _)); exact BK400.out) Tryd.underlying24 rfl qf) rfl ?_
                   exact ⟨by first | rfl | (simp [errW_none, errW_some] <;> rfl) | (simp [*, errW_none, errW_some] <;> rfl) | (simp [*, IntKind.wrap_u32]; done) | (simp_all [IntKind.wrap_u32]; done), by repeat (first | (with_reducible first | exact HB.out | apply below_alloc | apply pw_below_drewN | apply below_drew1 | refine below_set ?_ GE400.out | refine below_set ?_ GE411.out) | exact HB.out)⟩
                  ·replace c55 := Bool.eq_false_iff.mpr c55
                   subst c55
                   rw [if_neg (show ¬ (false = true) by decide)] at H
                   simp only [Option.some.injEq, Prod.mk.injEq] at H
                   obtain ⟨rfl, rfl, rfl, rfl, rfl, rfl, rfl, rfl, rfl, rfl, rfl, rfl, rfl, rfl, rfl, rfl, rfl⟩ := H
                   have hnb59 := NB411_400.out
                   have hnc59 := NB400_411.out
                   obtain ⟨hcz60_0, hcz60_1, hcz60_2, hcz60_3, hcz60_4, hcz60_5, hcz60_6, hcz60_7, hcz60_8, hcz60_9, hcz60_10, hcz60_11, hcz60_12, hcz60_13, hcz60_14, hcz60_15⟩ := cells16 BK411.out
                   obtain ⟨hfz60_0, hfz60_1, hfz60_2, hfz60_3, hfz60_4, hfz60_5, hfz60_6, hfz60_7, hfz60_8, hfz60_9, hfz60_10, hfz60_11, hfz60_12, hfz60_13, hfz60_14, hfz60_15⟩ := frozen16 BK411.out
                   obtain ⟨hcz61_0, hcz61_1, hcz61_2, hcz61_3, hcz61_4, hcz61_5, hcz61_6, hcz61_7, hcz61_8, hcz61_9, hcz61_10, hcz61_11, hcz61_12, hcz61_13, hcz61_14, hcz61_15⟩ := cells16 BK400.out
                   obtain ⟨hfz61_0, hfz61_1, hfz61_2, hfz61_3, hfz61_4, hfz61_5, hfz61_6, hfz61_7, hfz61_8, hfz61_9, hfz61_10, hfz61_11, hfz61_12, hfz61_13, hfz61_14, hfz61_15⟩ := frozen16 BK400.out
                   go_wp2_with (first | ((with_reducible refine gate_st (ty := 24) rfl ?_); refine storeC16 rfl rfl rfl rfl rfl qb1 qo qf rfl ?_) | ((with_reducible refine gate_ld (ty := 24) rfl ?_); (try (with_reducible refine gate_gd rfl ?_; refine gate_guard qc8 ?_; dsimp only)); refine load_st rfl rfl rfl qb1 qo Tryd.underlying24 rfl qf ?_; (try simp only [Act.put, List.setIfInBounds_toArray, List.set_cons_zero, List.set_cons_succ])) | go_in)
                   refine bodyPost_ret (results_ct rfl _ _ gb400 24 #[.int .i64 0, .bool ((Int.tmod t402 2) == 1), .bool false, .bool false, .bool false, .bool false, .bool ((wrap64 (Int.tdiv t402 128)) == 1), .int .i64 0, .int .u64 t403, .int .i64 t404, .int .u64 t405, .int .i64 t406, .int .i64 t407, .int .i64 t408, .int .i64 t409, .int .i64 t410] (0, 0) _ rfl qdc Tryd.underlying24 rfl qf) rfl ?_
                   exact ⟨by first | rfl | (simp [errW_none, errW_some] <;> rfl) | (simp [*, errW_none, errW_some] <;> rfl) | (simp [*, IntKind.wrap_u32]; done) | (simp_all [IntKind.wrap_u32]; done), by repeat (first | (with_reducible first | exact HB.out | apply below_alloc | apply pw_below_drewN | apply below_drew1 | refine below_set ?_ GE400.out | refine below_set ?_ GE411.out) | exact HB.out)⟩
               ·rw [if_neg c28] at H
                exact absurd H qb
              ·rw [if_neg c27] at H
               exact absurd H qb
             ·rw [if_neg c24] at H
              exact absurd H qb
            ·rw [if_neg c23] at H
             exact absurd H qb
    ·rw [if_neg c7] at H
     have c7b0 : ((a0.extract 0 5).toList == ([66, 66, 3, 0, 0] : List UInt8)) = false := beq_eq_false_iff_ne.mpr c7
     have c7b1 : ((a0.extract 0 5).toList != ([66, 66, 3, 0, 0] : List UInt8)) = true := bne_iff_ne.mpr c7
     simp only [Option.some.injEq, Prod.mk.injEq] at H
     obtain ⟨rfl, rfl, rfl, rfl, rfl, rfl, rfl, rfl, rfl, rfl, rfl, rfl, rfl, rfl, rfl, rfl, rfl⟩ := H
     go_enter Tryd.func14, Tryd.ntmps14
     go_wp2_with (first | ((with_reducible refine gate_st (ty := 24) rfl ?_); refine storeC16 rfl rfl rfl rfl rfl qb1 qo qf rfl ?_) | ((with_reducible refine gate_ld (ty := 24) rfl ?_); (try (with_reducible refine gate_gd rfl ?_; refine gate_guard qc8 ?_; dsimp only)); refine load_st rfl rfl rfl qb1 qo Tryd.underlying24 rfl qf ?_; (try simp only [Act.put, List.setIfInBounds_toArray, List.set_cons_zero, List.set_cons_succ])) | ((with_reducible refine gate_dst (N := 2) rfl ?_); (try (refine gate_guard qa ?_; dsimp only)); refine box_event ?hg (N := 2) ?hd (cs := #[.int .i64 0, .bool false, .bool false, .bool false, .bool false, .bool false, .bool false, .int .i64 0, .int .u64 0, .int .i64 0, .int .u64 0, .int .i64 0, .int .i64 0, .int .i64 0, .int .i64 0, .int .i64 0]) (t := 24) ?hr ?_; (case hd => rfl); (case hg => rfl); (case hr => first | (go_simp; done) | (go_simp; rfl)); intro gb400 hg w62 hbox hb; have n0_ := Aside0.mk (below_step qbh hb); have n1_ := Aside0.mk (hbox); have n2_ := Aside0.mk ((qcq : w.heap.size ≤ gb400)); have n3_ := Aside0.mk ((qcq : w.heap.size ≤ gb400)); clear HB; have HB := n0_; have BK400 := n1_; have GW400 := n2_; have GE400 := n3_; clear n0_ n1_ n2_ n3_; clear hb hbox hg; obtain ⟨hcz63_0, hcz63_1, hcz63_2, hcz63_3, hcz63_4, hcz63_5, hcz63_6, hcz63_7, hcz63_8, hcz63_9, hcz63_10, hcz63_11, hcz63_12, hcz63_13, hcz63_14, hcz63_15⟩ := cells16 BK400.out; obtain ⟨hfz63_0, hfz63_1, hfz63_2, hfz63_3, hfz63_4, hfz63_5, hfz63_6, hfz63_7, hfz63_8, hfz63_9, hfz63_10, hfz63_11, hfz63_12, hfz63_13, hfz63_14, hfz63_15⟩ := frozen16 BK400.out))
     refine bodyPost_ret (results_ct rfl _ _ gb400 24 #[.int .i64 0, .bool false, .bool false, .bool false, .bool false, .bool false, .bool false, .int .i64 0, .int .u64 0, .int .i64 0, .int .u64 0, .int .i64 0, .int .i64 0, .int .i64 0, .int .i64 0, .int .i64 0] (0, 0) _ rfl qdc Tryd.underlying24 rfl qf) rfl ?_
     exact ⟨by first | rfl | (simp [errW_none, errW_some] <;> rfl) | (simp [*, errW_none, errW_some] <;> rfl) | (simp [*, IntKind.wrap_u32]; done) | (simp_all [IntKind.wrap_u32]; done), by repeat (first | (with_reducible first | exact HB.out | apply below_alloc | apply pw_below_drewN | apply below_drew1 | refine below_set ?_ GE400.out) | exact HB.out)⟩
   ·rw [if_neg c6] at H
    exact absurd H qb
  ·rw [if_neg c5] at H
   exact absurd H qb
end Go.Proofs.YtbfjlhjfpmgplaaDoor.P
