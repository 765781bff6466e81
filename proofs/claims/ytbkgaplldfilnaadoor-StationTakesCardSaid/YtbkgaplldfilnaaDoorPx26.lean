-- slim
-- Written by wip/hprint.py (this session's program) through the kit's print program; hand contracts are marked 'by hand'.
import Derived.Test.YtbkgaplldfilnaaDoorAbb
import Derived.Test.YtbkgaplldfilnaaDoorRow
import Derived.Test.YtbkgaplldfilnaaDoorPx0
import Derived.Test.YtbkgaplldfilnaaDoorPx24
import Derived.Test.YtbkgaplldfilnaaDoorPx25
namespace Go.Proofs.YtbkgaplldfilnaaDoor.P
open Go.RowKit Go.Proofs.YtbkgaplldfilnaaDoorW.PrintWords Go.Proofs.YtbkgaplldfilnaaDoorW.PrintLast Go.Proofs.YtbkgaplldfilnaaDoorW.PrintMore
attribute [local go_sem] max2_int min2_int max_two min_two max_three min_three max_four min_four   -- for this text's walks alone
set_option linter.unusedVariables false
set_option linter.unusedSimpArgs false

theorem q8lm {p : Prop} (h : p := by (with_reducible repeat (first | refine blk_drewN ?_ _ | refine blk_drew ?_ | refine blk_alloc ?_ _)); exact BK285.out) : p := h
theorem qyo2 {p : Prop} (h : p := by repeat (first | (with_reducible first | exact HB.out | apply below_alloc | apply pw_below_drewN | apply below_drew1 | refine below_set ?_ GE285.out) | exact HB.out)) : p := h
theorem q26r {p : Prop} (h : p := by with_reducible repeat (first | (apply blk_far; case hp => assumption) | apply blk_set | refine blk_drewN ?_ _ | refine blk_drew ?_ | refine blk_alloc ?_ _ | exact BK285.out)) : p := h
theorem q2pu {p : Prop} (h : p := by (with_reducible repeat (first | refine blk_drewN ?_ _ | refine blk_drew ?_ | refine blk_alloc ?_ _)); exact put10_0_10 q8lm) : p := h
/-! ### gangwayref06_Parse: function 20 -/
def gangwayref06_Parse.j0 : Nat → ByteArray → Int → Int → Bool → Option (Int × Int × Bool × Bool × Int × Int × Int × Int × Int × ByteArray × Int)
 | 0, _, _, _, _ => none
 | k + 1, x0, x4, x5, x28 => if x28 = true then (some (0, 0, false, false, 0, 0, 0, 0, 0, (⟨#[]⟩ : ByteArray), 61)) else (if x4 > (x0.size : Int) then (some (0, 0, false, false, 0, 0, 0, 0, 0, (⟨#[]⟩ : ByteArray), 60)) else ((gangwayref06_num.f k x0 1 2).bind fun t289 => ((gangwayref06_num.f k x0 4 6).bind fun t290 => ((gangwayref06_num.f k x0 8 9).bind fun t291 => ((gangwayref06_num.f k x0 9 10).bind fun t292 => ((gangwayref06_num.f k x0 12 16).bind fun t293 => ((gangwayref06_num.f k x0 16 20).bind fun t294 => (if 20 ≤ x4 then (if x4 ≤ (x0.size : Int) then (some (t289, t290, ((wrap64 (Int.tdiv x5 16384)) == 1), ((Int.tmod (wrap64 (Int.tdiv x5 8192)) 2) == 1), Int.tmod x5 8192, t291, t292, (t293) % 4294967296, (t294) % 4294967296, x0.extract 20 (x4 : Int).toNat, 0)) else (none)) else (none)))))))))
def gangwayref06_Parse.f (k : Nat) (a0 : ByteArray) : Option (Int × Int × Bool × Bool × Int × Int × Int × Int × Int × ByteArray × Int) := if (a0.size : Int) < 20 then (some (0, 0, false, false, 0, 0, 0, 0, 0, (⟨#[]⟩ : ByteArray), 60)) else (if 0 < (a0.size : Int) then (if (bt a0 0) = 69 then (if 0 ≤ 20 then (if 20 ≤ (a0.size : Int) then ((gangwayref03_Of.f k (a0.extract 0 20)).bind fun t286 => (if t286 = 0 then ((gangwayref06_num.f k a0 2 4).bind fun t287 => ((gangwayref06_num.f k a0 6 8).bind fun t288 => (if t287 < 20 then (gangwayref06_Parse.j0 k a0 t287 t288 true) else (gangwayref06_Parse.j0 k a0 t287 t288 (decide (t288 ≥ 32768)))))) else (some (0, 0, false, false, 0, 0, 0, 0, 0, (⟨#[]⟩ : ByteArray), 62)))) else (none)) else (none)) else (some (0, 0, false, false, 0, 0, 0, 0, 0, (⟨#[]⟩ : ByteArray), 61))) else (none))
theorem gangwayref06_Parse.mono_l : ∀ k, (∀ y0 y1 y2 y3, LeO (gangwayref06_Parse.j0 k y0 y1 y2 y3) (gangwayref06_Parse.j0 (k + 1) y0 y1 y2 y3))
 | 0 => fun _ _ _ _ r h => by simp [gangwayref06_Parse.j0] at h
 | k + 1 => by
  have ih0 := gangwayref06_Parse.mono_l k
  ·intro y0 y1 y2 y3
   unfold gangwayref06_Parse.j0
   repeat' first
   | (with_reducible exact ih0 _ _ _ _)
   | (with_reducible exact gangwayref03_Of.mono _ _)
   | (with_reducible exact gangwayref06_num.mono _ _ _ _)
   | (with_reducible exact LeO.refl _)
   | (with_reducible exact LeO.none _)
   | (with_reducible refine LeO.ite ?_ ?_)
   | (with_reducible refine LeO.bind ?_ (fun _ => ?_))
   | exact ih0 _ _ _ _
   | exact gangwayref03_Of.mono _ _
   | exact gangwayref06_num.mono _ _ _ _
   | exact LeO.none _
   | refine LeO.ite ?_ ?_
   | refine LeO.bind ?_ (fun _ => ?_)
theorem gangwayref06_Parse.mono : ∀ a0 k, LeO (gangwayref06_Parse.f k a0) (gangwayref06_Parse.f (k + 1) a0) := by
 intro a0 k
 have ih0 := gangwayref06_Parse.mono_l k
 unfold gangwayref06_Parse.f
 repeat' first
   | (with_reducible exact ih0 _ _ _ _)
   | (with_reducible exact gangwayref03_Of.mono _ _)
   | (with_reducible exact gangwayref06_num.mono _ _ _ _)
   | (with_reducible exact LeO.refl _)
   | (with_reducible exact LeO.none _)
   | (with_reducible refine LeO.ite ?_ ?_)
   | (with_reducible refine LeO.bind ?_ (fun _ => ?_))
   | exact ih0 _ _ _ _
   | exact gangwayref03_Of.mono _ _
   | exact gangwayref06_num.mono _ _ _ _
   | exact LeO.none _
   | refine LeO.ite ?_ ?_
   | refine LeO.bind ?_ (fun _ => ?_)
def gangwayref06_Parse.T12 : Bool × List (List Nat × List Nat) := (true, [([], []), ([0], [0]), ([], []), ([2, 1], [2]), ([], []), ([4], [4]), ([5], [5]), ([], []), ([7], [7]), ([8], [8]), ([9], [9]), ([], []), ([11], [11]), ([], []), ([13, 3], [13]), ([], []), ([15, 14], [15]), ([], []), ([17, 16], [17]), ([18], [18]), ([], []), ([20, 18], [20]), ([21], [21]), ([], []), ([], []), ([23, 24], [23, 24]), ([1, 3, 6, 10, 12, 14, 16, 19, 22, 25], [1, 3, 6, 10, 12, 14, 16, 19, 22, 25]), ([26, 21, 0, 1, 2, 3, 4, 5, 6, 7, 8, 9, 10, 11, 12, 13, 14, 15, 16, 17, 18, 19, 20, 21, 22, 23, 24, 25, 26], [26]), ([27, 0, 1, 2, 3, 4, 5, 6, 7, 8, 9, 10, 11, 12, 13, 14, 15, 16, 17, 18, 19, 20, 21, 22, 23, 24, 25, 26, 27], [])])
def gangwayref06_Parse.B12 : List Nat := [0, 1, 0, 7, 0, 16, 48, 0, 128, 384, 896, 0, 2048, 0, 8207, 0, 57359, 0, 253967, 516111, 0, 1564687, 3661839, 0, 0, 25165824, 67108863, 134217727, 268435455]
theorem gangwayref06_Parse.tab12 : rtab .any (opsOf Tryd.f20 12) = gangwayref06_Parse.T12 := by kernel_rfl
theorem gangwayref06_Parse.bits12 : waitsOk gangwayref06_Parse.T12.2 gangwayref06_Parse.B12 = true := by kernel_rfl
theorem z26_0 {p : Prop} (h : p := by
 simp only [Option.some.injEq, Prod.mk.injEq] at H
 obtain ⟨rfl, rfl, rfl, rfl, rfl, rfl, rfl, rfl, rfl, rfl, rfl⟩ := H
 obtain ⟨hczz0_0, hczz0_1, hczz0_2, hczz0_3, hczz0_4, hczz0_5, hczz0_6, hczz0_7, hczz0_8, hczz0_9⟩ := cells10 BK285.out
 obtain ⟨hfzz0_0, hfzz0_1, hfzz0_2, hfzz0_3, hfzz0_4, hfzz0_5, hfzz0_6, hfzz0_7, hfzz0_8, hfzz0_9⟩ := frozen10 BK285.out
 go_wp2_with (first | ((with_reducible refine gate_st (ty := 64) rfl ?_); refine storeC10 rfl rfl rfl rfl rfl q26r qr2c qg3m rfl ?_) | ((with_reducible refine gate_ld (ty := 64) rfl ?_); (try (with_reducible refine gate_gd rfl ?_; refine gate_guard q8ju ?_; dsimp only)); refine load_st rfl rfl rfl q26r qr2c Tryd.underlying64 rfl qg3m ?_; (try simp only [Act.put, List.setIfInBounds_toArray, List.set_cons_zero, List.set_cons_succ])) | go_in)
 refine bodyPost_ret (results_ct rfl _ _ gb285 64 #[.int .i64 0, .int .i64 0, .bool false, .bool false, .int .i64 0, .int .i64 0, .int .i64 0, .int .u32 0, .int .u32 0, .string (⟨#[]⟩ : ByteArray)] (0, 0) _ rfl q2pu Tryd.underlying64 rfl qg3m) rfl ?_
 exact ⟨qxu5, qyo2⟩) : p := h
set_option maxHeartbeats 8000000 in
set_option maxRecDepth 100000 in
theorem gangwayref06_Parse.calls (k : Nat) (a0 : ByteArray) (r1 : Int) (r2 : Int) (r3 : Bool) (r4 : Bool) (r5 : Int) (r6 : Int) (r7 : Int) (r8 : Int) (r9 : Int) (r10 : ByteArray) (r11 : Int) (w : World) (h : gangwayref06_Parse.f k a0 = some (r1, r2, r3, r4, r5, r6, r7, r8, r9, r10, r11)) :
  Calls Tryd.prog 20 #[.string a0] w fun e w' => e = .returned (.tuple #[.agg #[.int .i64 r1, .int .i64 r2, .bool r3, .bool r4, .int .i64 r5, .int .i64 r6, .int .i64 r7, .int .u32 r8, .int .u32 r9, .string r10], .int .i64 r11]) ∧ Below w.heap.size w w' := by
 have hu64 := Tryd.underlying64
 have HB := Aside0.mk (Below.refl w.heap.size w)
 have H := h
 unfold gangwayref06_Parse.f at H
 clear h
 by_cases c2 : (a0.size : Int) < 20
 ·rw [if_pos c2] at H
  have c2b0 : decide ((a0.size : Int) < 20) = true := decide_eq_true c2
  have c2b1 : decide (a0.size < 20) = true := decide_eq_true q1jy
  clear c2
  simp only [Option.some.injEq, Prod.mk.injEq] at H
  obtain ⟨rfl, rfl, rfl, rfl, rfl, rfl, rfl, rfl, rfl, rfl, rfl⟩ := H
  go_enter Tryd.func20, Tryd.ntmps20
  go_wp2_with (first | ((with_reducible refine gate_st (ty := 64) rfl ?_); refine storeC10 rfl rfl rfl rfl rfl q26r qr2c qg3m rfl ?_) | ((with_reducible refine gate_ld (ty := 64) rfl ?_); (try (with_reducible refine gate_gd rfl ?_; refine gate_guard q8ju ?_; dsimp only)); refine load_st rfl rfl rfl q26r qr2c Tryd.underlying64 rfl qg3m ?_; (try simp only [Act.put, List.setIfInBounds_toArray, List.set_cons_zero, List.set_cons_succ])) | ((with_reducible refine gate_dst (N := 2) rfl ?_); refine box_event qgcr (N := 2) qgcr (cs := #[.int .i64 0, .int .i64 0, .bool false, .bool false, .int .i64 0, .int .i64 0, .int .i64 0, .int .u32 0, .int .u32 0, .string (⟨#[]⟩ : ByteArray)]) (t := 64) qlto ?_; intro gb285 hg w3 hbox hb; have BK285 := Aside0.mk (hbox); have GE285 := Aside0.mk ((qisx : w.heap.size ≤ gb285)); replace HB := Aside0.mk (below_step qpag hb); clear hb hbox hg; obtain ⟨hcz4_0, hcz4_1, hcz4_2, hcz4_3, hcz4_4, hcz4_5, hcz4_6, hcz4_7, hcz4_8, hcz4_9⟩ := cells10 BK285.out; obtain ⟨hfz4_0, hfz4_1, hfz4_2, hfz4_3, hfz4_4, hfz4_5, hfz4_6, hfz4_7, hfz4_8, hfz4_9⟩ := frozen10 BK285.out))
  refine bodyPost_ret (results_ct rfl _ _ gb285 64 #[.int .i64 0, .int .i64 0, .bool false, .bool false, .int .i64 0, .int .i64 0, .int .i64 0, .int .u32 0, .int .u32 0, .string (⟨#[]⟩ : ByteArray)] (0, 0) _ rfl q2pu Tryd.underlying64 rfl qg3m) rfl ?_
  exact ⟨qxu5, qyo2⟩
 ·rw [if_neg c2] at H
  have c2b0 : decide ((a0.size : Int) < 20) = false := decide_eq_false c2
  have c2b1 : decide (a0.size < 20) = false := decide_eq_false q1jy
  clear c2
  by_cases c5 : 0 < (a0.size : Int)
  ·rw [if_pos c5] at H
   have c5b0 : decide (0 < (a0.size : Int)) = true := decide_eq_true c5
   have c5b1 : decide (0 < a0.size) = true := decide_eq_true q1jy
   clear c5
   by_cases c7 : (bt a0 0) = 69
   ·rw [if_pos c7] at H
    have c7b0 : ((bt a0 0) == 69) = true := beq_iff_eq.mpr c7
    have c7b1 : ((bt a0 0) != 69) = false := bne_eq_false_iff_eq.mpr c7
    clear c7
    by_cases c8 : 0 ≤ 20
    ·rw [if_pos c8] at H
     have c8b0 := eq_true c8
     have c8b1 : decide (0 ≤ 20) = true := decide_eq_true c8
     clear c8
     by_cases c9 : 20 ≤ (a0.size : Int)
     ·rw [if_pos c9] at H
      have c9b0 := eq_true c9
      have c9b1 : decide (20 ≤ (a0.size : Int)) = true := decide_eq_true c9
      clear c9
      replace H := Option.bind_eq_some_iff.mp H
      obtain ⟨t286, A100, H⟩ := H
      try dsimp only at H
      have A10 := Aside0.mk A100
      clear A100
      by_cases c11 : t286 = 0
      ·rw [if_pos c11] at H
       have c11b0 : (t286 == 0) = true := beq_iff_eq.mpr c11
       have c11b1 : (t286 != 0) = false := bne_eq_false_iff_eq.mpr c11
       clear c11
       replace H := Option.bind_eq_some_iff.mp H
       obtain ⟨t287, A120, H⟩ := H
       try dsimp only at H
       have A12 := Aside0.mk A120
       clear A120
       replace H := Option.bind_eq_some_iff.mp H
       obtain ⟨t288, A130, H⟩ := H
       try dsimp only at H
       have A13 := Aside0.mk A130
       clear A130
       have HC14 := Aside0.mk H
       clear H
       go_enter Tryd.func20, Tryd.ntmps20
       go_upto_region 8 with (first | ((with_reducible refine gate_st (ty := 64) rfl ?_); refine storeC10 rfl rfl rfl rfl rfl q26r qr2c qg3m rfl ?_) | ((with_reducible refine gate_ld (ty := 64) rfl ?_); (try (with_reducible refine gate_gd rfl ?_; refine gate_guard q8ju ?_; dsimp only)); refine load_st rfl rfl rfl q26r qr2c Tryd.underlying64 rfl qg3m ?_; (try simp only [Act.put, List.setIfInBounds_toArray, List.set_cons_zero, List.set_cons_succ])) | ((with_reducible refine gate_dst (N := 2) rfl ?_); refine box_event qgcr (N := 2) qgcr (cs := #[.int .i64 0, .int .i64 0, .bool false, .bool false, .int .i64 0, .int .i64 0, .int .i64 0, .int .u32 0, .int .u32 0, .string (⟨#[]⟩ : ByteArray)]) (t := 64) qlto ?_; intro gb285 hg w15 hbox hb; have BK285 := Aside0.mk (hbox); have GE285 := Aside0.mk ((qisx : w.heap.size ≤ gb285)); replace HB := Aside0.mk (below_step qpag hb); clear hb hbox hg; have p6 : 0 ≤ (0 : Int) := q1jy; have q6 : 0 < a0.size := q1al; have hx6 : ∀ h : 0 < a0.size, ((a0[0]'h).toNat : Int) = bt a0 0 := bt_at a0 0; clear p6; have qi6 : (0 < (a0.size : Int)) = True := eq_true (of_decide_eq_true qlss); replace q6 := eq_true q6) | ((with_reducible refine gate_callee (f := 38) rfl ?_); refine goesL_ (some 16) rfl rfl Tryd.func38 qg3m rfl #[.string (a0.extract 0 20)] rfl qraq ?_; (with_reducible refine (gangwayref03_Of.calls k (a0.extract 0 20) t286 _ A10.out).mono ?_); rintro e w' ⟨rfl, ⟨nd, rfl⟩⟩; refine ⟨_, rfl, ?_⟩) | ((with_reducible refine gate_callee (f := 39) rfl ?_); refine goesL_ (some 20) rfl rfl Tryd.func39 qg3m rfl #[.string a0, .int .i64 2, .int .i64 4] rfl qraq ?_; (with_reducible refine (gangwayref06_num.calls k a0 2 4 t287 _ A12.out).mono ?_); rintro e w' ⟨rfl, ⟨nd, rfl⟩⟩; refine ⟨_, rfl, ?_⟩) | ((with_reducible refine gate_callee (f := 39) rfl ?_); refine goesL_ (some 22) rfl rfl Tryd.func39 qg3m rfl #[.string a0, .int .i64 6, .int .i64 8] rfl qraq ?_; (with_reducible refine (gangwayref06_num.calls k a0 6 8 t288 _ A13.out).mono ?_); rintro e w' ⟨rfl, ⟨nd, rfl⟩⟩; refine ⟨_, rfl, ?_⟩))
       (try simp only [Act.put, List.setIfInBounds_toArray, List.set_cons_zero, List.set_cons_succ])
       go_cut [28] (fun v28 wc => ∃ (kq : Nat) (x28_13 : Bool), v28 = .bool x28_13 ∧ Aside0 (gangwayref06_Parse.j0 kq a0 t287 t288 x28_13 = some (r1, r2, r3, r4, r5, r6, r7, r8, r9, r10, r11)) ∧ Aside0 (kq ≤ k) ∧ Aside0 (wc.heap[gb285]? = some (.cells #[.int .i64 0, .int .i64 0, .bool false, .bool false, .int .i64 0, .int .i64 0, .int .i64 0, .int .u32 0, .int .u32 0, .string (⟨#[]⟩ : ByteArray)] 64 (0, 0))) ∧ Aside0 (Below w.heap.size w wc))
       case first =>
        have H := HC14.out
        clear HC14
        by_cases c16 : t287 < 20
        ·rw [if_pos c16] at H
         have c16b0 : decide (t287 < 20) = true := decide_eq_true c16
         clear c16
         (first | rw [c16b0] | (simp only [i64_w, i32_w]; rw [c16b0]) | skip)
         have H' := Aside0.mk H
         clear H
         go_wp2_with (first | ((with_reducible refine gate_st (ty := 64) rfl ?_); refine storeC10 rfl rfl rfl rfl rfl q26r qr2c qg3m rfl ?_) | ((with_reducible refine gate_ld (ty := 64) rfl ?_); (try (with_reducible refine gate_gd rfl ?_; refine gate_guard q8ju ?_; dsimp only)); refine load_st rfl rfl rfl q26r qr2c Tryd.underlying64 rfl qg3m ?_; (try simp only [Act.put, List.setIfInBounds_toArray, List.set_cons_zero, List.set_cons_succ])) | go_in)
         go_meet
         case rel => exact ⟨_, (true), q8z4, H', ⟨qpfc⟩, ⟨q8lm⟩, ⟨qyo2⟩⟩
        ·rw [if_neg c16] at H
         have c16b0 : decide (t287 < 20) = false := decide_eq_false c16
         clear c16
         (first | rw [c16b0] | (simp only [i64_w, i32_w]; rw [c16b0]) | skip)
         have H' := Aside0.mk H
         clear H
         go_wp2_with (first | ((with_reducible refine gate_st (ty := 64) rfl ?_); refine storeC10 rfl rfl rfl rfl rfl q26r qr2c qg3m rfl ?_) | ((with_reducible refine gate_ld (ty := 64) rfl ?_); (try (with_reducible refine gate_gd rfl ?_; refine gate_guard q8ju ?_; dsimp only)); refine load_st rfl rfl rfl q26r qr2c Tryd.underlying64 rfl qg3m ?_; (try simp only [Act.put, List.setIfInBounds_toArray, List.set_cons_zero, List.set_cons_succ])) | go_in)
         go_meet
         case rel => exact ⟨_, (decide (t288 ≥ 32768)), q8z4, H', ⟨qpfc⟩, ⟨q8lm⟩, ⟨qyo2⟩⟩
       case rest =>
        clear HC14
        try clear c1
        try clear c2
        try clear c2b0
        try clear c2b1
        try clear p2
        try clear c3
        try clear c5
        try clear c5b0
        try clear c5b1
        try clear p6
        try clear q6
        try clear hx6
        try clear qi6
        try clear c7
        try clear c7b0
        try clear c7b1
        try clear c8
        try clear c8b0
        try clear c8b1
        try clear c9
        try clear c9b0
        try clear c9b1
        try clear c11
        try clear c11b0
        try clear c11b1
        try clear c16
        try clear c16b0
        try clear p6
        try clear q6
        obtain ⟨kq, x28_13, rfl, HA, HJ13, BK285, HB⟩ := hcut
        cases kq with
        | zero => exact absurd HA.out (by simp [gangwayref06_Parse.j0])
        | succ kj13 =>
         have H := HA.out
         clear HA
         simp only [gangwayref06_Parse.j0] at H
         by_cases c17 : x28_13 = true
         ·subst c17
          rw [if_pos rfl] at H
          exact z26_0
         ·replace c17 := Bool.eq_false_iff.mpr c17
          subst c17
          rw [if_neg (show ¬ (false = true) by decide)] at H
          by_cases c19 : t287 > (a0.size : Int)
          ·rw [if_pos c19] at H
           have c19b0 : decide ((a0.size : Int) < t287) = true := decide_eq_true c19
           clear c19
           exact z26_0
          ·rw [if_neg c19] at H
           have c19b0 : decide ((a0.size : Int) < t287) = false := decide_eq_false c19
           clear c19
           replace H := Option.bind_eq_some_iff.mp H
           obtain ⟨t289, A210, H⟩ := H
           try dsimp only at H
           have A21 := Aside0.mk A210
           clear A210
           replace H := Option.bind_eq_some_iff.mp H
           obtain ⟨t290, A220, H⟩ := H
           try dsimp only at H
           have A22 := Aside0.mk A220
           clear A220
           replace H := Option.bind_eq_some_iff.mp H
           obtain ⟨t291, A230, H⟩ := H
           try dsimp only at H
           have A23 := Aside0.mk A230
           clear A230
           replace H := Option.bind_eq_some_iff.mp H
           obtain ⟨t292, A240, H⟩ := H
           try dsimp only at H
           have A24 := Aside0.mk A240
           clear A240
           replace H := Option.bind_eq_some_iff.mp H
           obtain ⟨t293, A250, H⟩ := H
           try dsimp only at H
           have A25 := Aside0.mk A250
           clear A250
           replace H := Option.bind_eq_some_iff.mp H
           obtain ⟨t294, A260, H⟩ := H
           try dsimp only at H
           have A26 := Aside0.mk A260
           clear A260
           by_cases c27 : 20 ≤ t287
           ·rw [if_pos c27] at H
            have c27b0 := eq_true c27
            have c27b1 : decide (20 ≤ t287) = true := decide_eq_true c27
            clear c27
            by_cases c28 : t287 ≤ (a0.size : Int)
            ·rw [if_pos c28] at H
             have c28b0 := eq_true c28
             have c28b1 : decide (t287 ≤ (a0.size : Int)) = true := decide_eq_true c28
             clear c28
             simp only [Option.some.injEq, Prod.mk.injEq] at H
             obtain ⟨rfl, rfl, rfl, rfl, rfl, rfl, rfl, rfl, rfl, rfl, rfl⟩ := H
             try go_wp2_with (first | ((with_reducible refine gate_st (ty := 64) rfl ?_); refine storeC10 rfl rfl rfl rfl rfl q26r qr2c qg3m rfl ?_) | ((with_reducible refine gate_ld (ty := 64) rfl ?_); (try (with_reducible refine gate_gd rfl ?_; refine gate_guard q8ju ?_; dsimp only)); refine load_st rfl rfl rfl q26r qr2c Tryd.underlying64 rfl qg3m ?_; (try simp only [Act.put, List.setIfInBounds_toArray, List.set_cons_zero, List.set_cons_succ])) | go_in)
             replace BK285 := Aside0.mk (blk_drew BK285.out)
             replace HB := Aside0.mk (below_drew1 HB.out)
             refine start_ (n := 29) (S := fun w' => True) (ds := []) (ba 29 0) qg3m rfl rfl trivial (fun hHeld => ?_); refine with_tabW gangwayref06_Parse.tab12 gangwayref06_Parse.bits12 (fun HT_ HW_ => ?_)
             generalize wc.drew = w29 at BK285 HB hHeld ⊢
             refine pu_c3d (i := 0) (N := some 35) (ba 29 1) ?_
             refine pu_c3d (i := 2) (N := some 37) (ba 29 5) ?_
             refine pu_c3d (i := 4) (N := some 39) (ba 29 21) ?_
             refine pu_c3d (i := 5) (N := some 40) (ba 29 53) ?_
             refine pu_c3d (i := 6) (N := some 41) (ba 29 117) ?_
             refine pu_c3d (i := 7) (N := some 42) (ba 29 245) ?_
             refine pu_c3d (i := 8) (N := some 43) (ba 29 501) ?_
             refine pu_c3d (i := 9) (N := some 44) (ba 29 1013) ?_
             refine pu_c3d (i := 10) (N := some 45) (ba 29 2037) ?_
             refine pu_c3d (i := 11) (N := some 46) (ba 29 4085) ?_
             refine pu_c3d (i := 12) (N := some 47) (ba 29 8181) ?_
             refine pu_c3d (i := 13) (N := some 48) (ba 29 16373) ?_
             refine pu_c3d (i := 15) (N := some 50) (ba 29 49141) ?_
             refine pu_c3d (i := 17) (N := some 52) (ba 29 180213) ?_
             refine pu_c3d (i := 20) (N := some 55) (ba 29 1228789) ?_
             refine pu_c3d (i := 23) (N := some 58) (ba 29 9617397) ?_
             refine pu_c3d (i := 24) (N := some 59) (ba 29 26394613) ?_
             refine pu_c3d (i := 25) (N := some 60) (ba 29 59949045) ?_
             refine one_ (i := 1) (N := some 36) (ba 29 59949047) rfl rfl (one_of HT_.out qg3m) qomw (fun K hK => ?_)
             refine goes_ Tryd.func39 qg3m rfl #[.string a0, .int .i64 1, .int .i64 2] qlo1 rfl rfl qraq ?_
             with_reducible refine (gangwayref06_num.calls kj13 a0 1 2 t289 _ A21.out).mono ?_
             rintro e w' ⟨rfl, ⟨nd, rfl⟩⟩
             refine ⟨_, rfl, ?_⟩
             refine hK.out _ _ trivial (fun hHeld => ?_)
             clear hK K
             refine norm_ (a' := ?_) ?_ ?_
             rotate_left
             ·show Act.put _ (some 36) _ = _
              simp only [Act.put, List.setIfInBounds_toArray, List.set_cons_zero, List.set_cons_succ, i64_w, i32_w]
              rfl
             refine one_ (i := 3) (N := some 38) (ba 29 59949055) rfl rfl (one_of HT_.out qg3m) qomw (fun K hK => ?_)
             refine goes_ Tryd.func39 qg3m rfl #[.string a0, .int .i64 4, .int .i64 6] qlo1 rfl rfl qraq ?_
             with_reducible refine (gangwayref06_num.calls kj13 a0 4 6 t290 _ A22.out).mono ?_
             rintro e w' ⟨rfl, ⟨nd, rfl⟩⟩
             refine ⟨_, rfl, ?_⟩
             refine hK.out _ _ trivial (fun hHeld => ?_)
             clear hK K
             refine norm_ (a' := ?_) ?_ ?_
             rotate_left
             ·show Act.put _ (some 38) _ = _
              simp only [Act.put, List.setIfInBounds_toArray, List.set_cons_zero, List.set_cons_succ, i64_w, i32_w]
              rfl
             refine one_ (i := 14) (N := some 49) (ba 29 59965439) rfl rfl (one_of HT_.out qg3m) qomw (fun K hK => ?_)
             refine goes_ Tryd.func39 qg3m rfl #[.string a0, .int .i64 8, .int .i64 9] qlo1 rfl rfl qraq ?_
             with_reducible refine (gangwayref06_num.calls kj13 a0 8 9 t291 _ A23.out).mono ?_
             rintro e w' ⟨rfl, ⟨nd, rfl⟩⟩
             refine ⟨_, rfl, ?_⟩
             refine hK.out _ _ trivial (fun hHeld => ?_)
             clear hK K
             refine norm_ (a' := ?_) ?_ ?_
             rotate_left
             ·show Act.put _ (some 49) _ = _
              simp only [Act.put, List.setIfInBounds_toArray, List.set_cons_zero, List.set_cons_succ, i64_w, i32_w]
              rfl
             refine one_ (i := 16) (N := some 51) (ba 29 60030975) rfl rfl (one_of HT_.out qg3m) qomw (fun K hK => ?_)
             refine goes_ Tryd.func39 qg3m rfl #[.string a0, .int .i64 9, .int .i64 10] qlo1 rfl rfl qraq ?_
             with_reducible refine (gangwayref06_num.calls kj13 a0 9 10 t292 _ A24.out).mono ?_
             rintro e w' ⟨rfl, ⟨nd, rfl⟩⟩
             refine ⟨_, rfl, ?_⟩
             refine hK.out _ _ trivial (fun hHeld => ?_)
             clear hK K
             refine norm_ (a' := ?_) ?_ ?_
             rotate_left
             ·show Act.put _ (some 51) _ = _
              simp only [Act.put, List.setIfInBounds_toArray, List.set_cons_zero, List.set_cons_succ, i64_w, i32_w]
              rfl
             refine one_ (i := 18) (N := some 53) (ba 29 60293119) rfl rfl (one_of HT_.out qg3m) qomw (fun K hK => ?_)
             refine goes_ Tryd.func39 qg3m rfl #[.string a0, .int .i64 12, .int .i64 16] qlo1 rfl rfl qraq ?_
             with_reducible refine (gangwayref06_num.calls kj13 a0 12 16 t293 _ A25.out).mono ?_
             rintro e w' ⟨rfl, ⟨nd, rfl⟩⟩
             refine ⟨_, rfl, ?_⟩
             refine hK.out _ _ trivial (fun hHeld => ?_)
             clear hK K
             refine norm_ (a' := ?_) ?_ ?_
             rotate_left
             ·show Act.put _ (some 53) _ = _
              simp only [Act.put, List.setIfInBounds_toArray, List.set_cons_zero, List.set_cons_succ, i64_w, i32_w]
              rfl
             refine pu_c3d (i := 19) (N := some 54) (ba 29 60817407) ?_
             refine one_ (i := 21) (N := some 56) (ba 29 62914559) rfl rfl (one_of HT_.out qg3m) qomw (fun K hK => ?_)
             refine goes_ Tryd.func39 qg3m rfl #[.string a0, .int .i64 16, .int .i64 20] qlo1 rfl rfl qraq ?_
             with_reducible refine (gangwayref06_num.calls kj13 a0 16 20 t294 _ A26.out).mono ?_
             rintro e w' ⟨rfl, ⟨nd, rfl⟩⟩
             refine ⟨_, rfl, ?_⟩
             refine hK.out _ _ trivial (fun hHeld => ?_)
             clear hK K
             refine norm_ (a' := ?_) ?_ ?_
             rotate_left
             ·show Act.put _ (some 56) _ = _
              simp only [Act.put, List.setIfInBounds_toArray, List.set_cons_zero, List.set_cons_succ, i64_w, i32_w]
              rfl
             refine pu_c3d (i := 22) (N := some 57) (ba 29 67108863) ?_
             refine pu_c3d (i := 26) (N := some 61) (ba 29 134217727) ?_
             refine one_ (i := 27) (N := none) (ba 29 268435455) rfl rfl (one_of HT_.out qg3m) qomw (fun K hK => ?_)
             have hs30 : w29.cell? ⟨gb285, 0, none⟩ = some (.int .i64 0) := (blk_cell BK285.out 0).trans rfl
             have hfs30 := blk_frozen BK285.out 0
             have hs31 : w29.cell? ⟨gb285, 1, none⟩ = some (.int .i64 0) := (blk_cell BK285.out 1).trans rfl
             have hfs31 := blk_frozen BK285.out 1
             have hs32 : w29.cell? ⟨gb285, 2, none⟩ = some (.bool false) := (blk_cell BK285.out 2).trans rfl
             have hfs32 := blk_frozen BK285.out 2
             have hs33 : w29.cell? ⟨gb285, 3, none⟩ = some (.bool false) := (blk_cell BK285.out 3).trans rfl
             have hfs33 := blk_frozen BK285.out 3
             have hs34 : w29.cell? ⟨gb285, 4, none⟩ = some (.int .i64 0) := (blk_cell BK285.out 4).trans rfl
             have hfs34 := blk_frozen BK285.out 4
             have hs35 : w29.cell? ⟨gb285, 5, none⟩ = some (.int .i64 0) := (blk_cell BK285.out 5).trans rfl
             have hfs35 := blk_frozen BK285.out 5
             have hs36 : w29.cell? ⟨gb285, 6, none⟩ = some (.int .i64 0) := (blk_cell BK285.out 6).trans rfl
             have hfs36 := blk_frozen BK285.out 6
             have hs37 : w29.cell? ⟨gb285, 7, none⟩ = some (.int .u32 0) := (blk_cell BK285.out 7).trans rfl
             have hfs37 := blk_frozen BK285.out 7
             have hs38 : w29.cell? ⟨gb285, 8, none⟩ = some (.int .u32 0) := (blk_cell BK285.out 8).trans rfl
             have hfs38 := blk_frozen BK285.out 8
             have hs39 : w29.cell? ⟨gb285, 9, none⟩ = some (.string (⟨#[]⟩ : ByteArray)) := (blk_cell BK285.out 9).trans rfl
             have hfs39 := blk_frozen BK285.out 9
             refine skip_ (w1 := ?_) qgcr rfl ?_ ?_
             rotate_left
             ·go_simp
              rfl
             refine hK.out _ _ trivial (fun hHeld => ?_)
             clear hK K
             refine pu_c3d (i := 28) (N := some 3) (ba 29 536870911) ?_
             refine done_ (done_of HT_.out qg3m) ?_
             try go_wp2_with (first | ((with_reducible refine gate_st (ty := 64) rfl ?_); refine storeC10 rfl rfl rfl rfl rfl q26r qr2c qg3m rfl ?_) | ((with_reducible refine gate_ld (ty := 64) rfl ?_); (try (with_reducible refine gate_gd rfl ?_; refine gate_guard q8ju ?_; dsimp only)); refine load_st rfl rfl rfl q26r qr2c Tryd.underlying64 rfl qg3m ?_; (try simp only [Act.put, List.setIfInBounds_toArray, List.set_cons_zero, List.set_cons_succ])) | go_in)
             refine bodyPost_ret (results_ct rfl _ _ gb285 64 #[.int .i64 t289, .int .i64 t290, .bool ((wrap64 (Int.tdiv t288 16384)) == 1), .bool ((Int.tmod (wrap64 (Int.tdiv t288 8192)) 2) == 1), .int .i64 (Int.tmod t288 8192), .int .i64 t291, .int .i64 t292, .int .u32 ((t293) % 4294967296), .int .u32 ((t294) % 4294967296), .string (a0.extract 20 (t287 : Int).toNat)] (0, 0) _ rfl q2pu Tryd.underlying64 rfl qg3m) rfl ?_
             exact ⟨qxu5, qyo2⟩
            ·rw [if_neg c28] at H
             exact absurd H q6hr
           ·rw [if_neg c27] at H
            exact absurd H q6hr
      ·rw [if_neg c11] at H
       have c11b0 : (t286 == 0) = false := beq_eq_false_iff_ne.mpr c11
       have c11b1 : (t286 != 0) = true := bne_iff_ne.mpr c11
       simp only [Option.some.injEq, Prod.mk.injEq] at H
       obtain ⟨rfl, rfl, rfl, rfl, rfl, rfl, rfl, rfl, rfl, rfl, rfl⟩ := H
       go_enter Tryd.func20, Tryd.ntmps20
       go_wp2_with (first | ((with_reducible refine gate_st (ty := 64) rfl ?_); refine storeC10 rfl rfl rfl rfl rfl q26r qr2c qg3m rfl ?_) | ((with_reducible refine gate_ld (ty := 64) rfl ?_); (try (with_reducible refine gate_gd rfl ?_; refine gate_guard q8ju ?_; dsimp only)); refine load_st rfl rfl rfl q26r qr2c Tryd.underlying64 rfl qg3m ?_; (try simp only [Act.put, List.setIfInBounds_toArray, List.set_cons_zero, List.set_cons_succ])) | ((with_reducible refine gate_dst (N := 2) rfl ?_); refine box_event qgcr (N := 2) qgcr (cs := #[.int .i64 0, .int .i64 0, .bool false, .bool false, .int .i64 0, .int .i64 0, .int .i64 0, .int .u32 0, .int .u32 0, .string (⟨#[]⟩ : ByteArray)]) (t := 64) qlto ?_; intro gb285 hg w40 hbox hb; have BK285 := Aside0.mk (hbox); have GE285 := Aside0.mk ((qisx : w.heap.size ≤ gb285)); replace HB := Aside0.mk (below_step qpag hb); clear hb hbox hg; have p6 : 0 ≤ (0 : Int) := q1jy; have q6 : 0 < a0.size := q1al; have hx6 : ∀ h : 0 < a0.size, ((a0[0]'h).toNat : Int) = bt a0 0 := bt_at a0 0; clear p6; have qi6 : (0 < (a0.size : Int)) = True := eq_true (of_decide_eq_true qlss); replace q6 := eq_true q6) | ((with_reducible refine gate_callee (f := 38) rfl ?_); refine goesL_ (some 16) rfl rfl Tryd.func38 qg3m rfl #[.string (a0.extract 0 20)] rfl qraq ?_; (with_reducible refine (gangwayref03_Of.calls k (a0.extract 0 20) t286 _ A10.out).mono ?_); rintro e w' ⟨rfl, ⟨nd, rfl⟩⟩; refine ⟨_, rfl, ?_⟩; (try (rw [drewN_self w40]; generalize hq_ : World.drewN w40 _ = w40; have n0_ : Aside0 (w40.heap[gb285]? = some (.cells #[.int .i64 0, .int .i64 0, .bool false, .bool false, .int .i64 0, .int .i64 0, .int .i64 0, .int .u32 0, .int .u32 0, .string (⟨#[]⟩ : ByteArray)] 64 (0, 0))) := ⟨(by rw [← hq_]; exact q8lm)⟩; have n1_ : Aside0 (Below w.heap.size w w40) := ⟨(by rw [← hq_]; exact qyo2)⟩; clear BK285 HB hq_; have BK285 := n0_; have HB := n1_; clear n0_ n1_)); obtain ⟨hcz41_0, hcz41_1, hcz41_2, hcz41_3, hcz41_4, hcz41_5, hcz41_6, hcz41_7, hcz41_8, hcz41_9⟩ := cells10 BK285.out; obtain ⟨hfz41_0, hfz41_1, hfz41_2, hfz41_3, hfz41_4, hfz41_5, hfz41_6, hfz41_7, hfz41_8, hfz41_9⟩ := frozen10 BK285.out))
       refine bodyPost_ret (results_ct rfl _ _ gb285 64 #[.int .i64 0, .int .i64 0, .bool false, .bool false, .int .i64 0, .int .i64 0, .int .i64 0, .int .u32 0, .int .u32 0, .string (⟨#[]⟩ : ByteArray)] (0, 0) _ rfl q2pu Tryd.underlying64 rfl qg3m) rfl ?_
       exact ⟨qxu5, qyo2⟩
     ·rw [if_neg c9] at H
      exact absurd H q6hr
    ·rw [if_neg c8] at H
     exact absurd H q6hr
   ·rw [if_neg c7] at H
    have c7b0 : ((bt a0 0) == 69) = false := beq_eq_false_iff_ne.mpr c7
    have c7b1 : ((bt a0 0) != 69) = true := bne_iff_ne.mpr c7
    simp only [Option.some.injEq, Prod.mk.injEq] at H
    obtain ⟨rfl, rfl, rfl, rfl, rfl, rfl, rfl, rfl, rfl, rfl, rfl⟩ := H
    go_enter Tryd.func20, Tryd.ntmps20
    go_wp2_with (first | ((with_reducible refine gate_st (ty := 64) rfl ?_); refine storeC10 rfl rfl rfl rfl rfl q26r qr2c qg3m rfl ?_) | ((with_reducible refine gate_ld (ty := 64) rfl ?_); (try (with_reducible refine gate_gd rfl ?_; refine gate_guard q8ju ?_; dsimp only)); refine load_st rfl rfl rfl q26r qr2c Tryd.underlying64 rfl qg3m ?_; (try simp only [Act.put, List.setIfInBounds_toArray, List.set_cons_zero, List.set_cons_succ])) | ((with_reducible refine gate_dst (N := 2) rfl ?_); refine box_event qgcr (N := 2) qgcr (cs := #[.int .i64 0, .int .i64 0, .bool false, .bool false, .int .i64 0, .int .i64 0, .int .i64 0, .int .u32 0, .int .u32 0, .string (⟨#[]⟩ : ByteArray)]) (t := 64) qlto ?_; intro gb285 hg w42 hbox hb; have BK285 := Aside0.mk (hbox); have GE285 := Aside0.mk ((qisx : w.heap.size ≤ gb285)); replace HB := Aside0.mk (below_step qpag hb); clear hb hbox hg; have p6 : 0 ≤ (0 : Int) := q1jy; have q6 : 0 < a0.size := q1al; have hx6 : ∀ h : 0 < a0.size, ((a0[0]'h).toNat : Int) = bt a0 0 := bt_at a0 0; clear p6; have qi6 : (0 < (a0.size : Int)) = True := eq_true (of_decide_eq_true qlss); replace q6 := eq_true q6; obtain ⟨hcz43_0, hcz43_1, hcz43_2, hcz43_3, hcz43_4, hcz43_5, hcz43_6, hcz43_7, hcz43_8, hcz43_9⟩ := cells10 BK285.out; obtain ⟨hfz43_0, hfz43_1, hfz43_2, hfz43_3, hfz43_4, hfz43_5, hfz43_6, hfz43_7, hfz43_8, hfz43_9⟩ := frozen10 BK285.out))
    refine bodyPost_ret (results_ct rfl _ _ gb285 64 #[.int .i64 0, .int .i64 0, .bool false, .bool false, .int .i64 0, .int .i64 0, .int .i64 0, .int .u32 0, .int .u32 0, .string (⟨#[]⟩ : ByteArray)] (0, 0) _ rfl q2pu Tryd.underlying64 rfl qg3m) rfl ?_
    exact ⟨qxu5, qyo2⟩
  ·rw [if_neg c5] at H
   exact absurd H q6hr
end Go.Proofs.YtbkgaplldfilnaaDoor.P
