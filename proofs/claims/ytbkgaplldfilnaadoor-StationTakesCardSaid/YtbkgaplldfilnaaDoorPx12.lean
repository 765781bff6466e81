-- slim
-- Written by wip/hprint.py (this session's program) through the kit's print program; hand contracts are marked 'by hand'.
import Derived.Test.YtbkgaplldfilnaaDoorAbb
import Derived.Test.YtbkgaplldfilnaaDoorRow
import Derived.Test.YtbkgaplldfilnaaDoorPx0
import Derived.Test.YtbkgaplldfilnaaDoorPx32
import Derived.Test.YtbkgaplldfilnaaDoorPx10
namespace Go.Proofs.YtbkgaplldfilnaaDoor.P
open Go.RowKit Go.Proofs.YtbkgaplldfilnaaDoorW.PrintWords Go.Proofs.YtbkgaplldfilnaaDoorW.PrintLast Go.Proofs.YtbkgaplldfilnaaDoorW.PrintMore
attribute [local go_sem] max2_int min2_int max_two min_two max_three min_three max_four min_four   -- for this text's walks alone
set_option linter.unusedVariables false
set_option linter.unusedSimpArgs false

theorem q0jj {p : Prop} (h : p := by (with_reducible repeat (first | refine blk_drewN ?_ _ | refine blk_drew ?_ | refine blk_alloc ?_ _)); exact BK128.out) : p := h
theorem ql34 {p : Prop} (h : p := by (with_reducible repeat (first | refine blk_drewN ?_ _ | refine blk_drew ?_ | refine blk_alloc ?_ _)); exact BK140.out) : p := h
theorem qwha {p : Prop} (h : p := by (with_reducible repeat (first | refine blk_drewN ?_ _ | refine blk_drew ?_ | refine blk_alloc ?_ _ | refine blk_far ?_ NB128_140.out _)); exact BK128.out) : p := h
theorem q542 {p : Prop} (h : p := by repeat (first | (with_reducible first | exact HB.out | apply below_alloc | apply pw_below_drewN | apply below_drew1 | refine below_set ?_ GE128.out) | exact HB.out)) : p := h
theorem qot3 {p : Prop} (h : p := by with_reducible repeat (first | (apply blk_far; case hp => assumption) | apply blk_set | refine blk_drewN ?_ _ | refine blk_drew ?_ | refine blk_alloc ?_ _ | exact BK128.out | exact BK140.out)) : p := h
theorem q0qh {p : Prop} (h : p := by repeat (first | (with_reducible first | exact HB.out | apply below_alloc | apply pw_below_drewN | apply below_drew1 | refine below_set ?_ GE128.out | refine below_set ?_ GE140.out) | exact HB.out)) : p := h
theorem q8x1 {p : Prop} (h : p := by (with_reducible repeat (first | refine blk_drewN ?_ _ | refine blk_drew ?_ | refine blk_alloc ?_ _)); exact put10_0_10 q0jj) : p := h
theorem q6fu {p : Prop} (h : p := by rw [hg]; exact Nat.ne_of_gt (blk_lt (g := gb128) (o := .cells #[.int .i64 0, .int .i64 0, .bool false, .bool false, .int .i64 0, .int .i64 0, .int .i64 0, .int .u32 0, .int .u32 0, .string (⟨#[]⟩ : ByteArray)] 64 (0, 0)) q0jj)) : p := h
theorem qlkt {p : Prop} (h : p := by rw [hg]; exact Nat.ne_of_lt (blk_lt (g := gb128) (o := .cells #[.int .i64 0, .int .i64 0, .bool false, .bool false, .int .i64 0, .int .i64 0, .int .i64 0, .int .u32 0, .int .u32 0, .string (⟨#[]⟩ : ByteArray)] 64 (0, 0)) q0jj)) : p := h
/-! ### inet_read: function 75 -/
def inet_read.j0 : Nat → ByteArray → Int → Int → Bool → Option (Int × Int × Bool × Bool × Int × Int × Int × Int × Int × ByteArray × Option Int)
 | 0, _, _, _, _ => none
 | k + 1, x0, x4, x5, x38 => if x38 = true then (some (0, 0, false, false, 0, 0, 0, 0, 0, (⟨#[]⟩ : ByteArray), some 61)) else (if x4 > (x0.size : Int) then (some (0, 0, false, false, 0, 0, 0, 0, 0, (⟨#[]⟩ : ByteArray), some 60)) else ((octets_Get.f k x0 12 4).bind fun bt135 => ((octets_Get.f k x0 16 4).bind fun bt137 => (if 1 < (x0.size : Int) then ((inet_get.f x0 4).bind fun t139 => (if 8 < (x0.size : Int) then (if 9 < (x0.size : Int) then (if 20 ≤ x4 then (if x4 ≤ (x0.size : Int) then (some (wrap64 (bt x0 1), t139, ((Go.bits .and .i64 x5 16384) != 0), ((Go.bits .and .i64 x5 8192) != 0), Int.tmod x5 8192, wrap64 (bt x0 8), wrap64 (bt x0 9), (bt135.1) % 4294967296, (bt137.1) % 4294967296, x0.extract 20 (x4 : Int).toNat, none)) else (none)) else (none)) else (none)) else (none))) else (none)))))
def inet_read.f (k : Nat) (a0 : ByteArray) : Option (Int × Int × Bool × Bool × Int × Int × Int × Int × Int × ByteArray × Option Int) := if (a0.size : Int) < 20 then (some (0, 0, false, false, 0, 0, 0, 0, 0, (⟨#[]⟩ : ByteArray), some 60)) else (if 0 < (a0.size : Int) then (if (bt a0 0) = 69 then (if 0 ≤ 20 then (if 20 ≤ (a0.size : Int) then ((csum_Right.f k (([a0.extract 0 20] : List ByteArray))).bind fun t132 => (if t132 = true then ((inet_get.f a0 2).bind fun t133 => ((inet_get.f a0 6).bind fun t134 => (if t133 < 20 then (inet_read.j0 k a0 t133 t134 true) else (inet_read.j0 k a0 t133 t134 ((Go.bits .and .i64 t134 32768) != 0))))) else (some (0, 0, false, false, 0, 0, 0, 0, 0, (⟨#[]⟩ : ByteArray), some 62)))) else (none)) else (none)) else (some (0, 0, false, false, 0, 0, 0, 0, 0, (⟨#[]⟩ : ByteArray), some 61))) else (none))
theorem inet_read.mono_l : ∀ k, (∀ y0 y1 y2 y3, LeO (inet_read.j0 k y0 y1 y2 y3) (inet_read.j0 (k + 1) y0 y1 y2 y3))
 | 0 => fun _ _ _ _ r h => by simp [inet_read.j0] at h
 | k + 1 => by
  have ih0 := inet_read.mono_l k
  ·intro y0 y1 y2 y3
   unfold inet_read.j0
   repeat' first
   | (with_reducible exact ih0 _ _ _ _)
   | (with_reducible exact csum_Right.mono _ _)
   | (with_reducible exact octets_Get.mono _ _ _ _)
   | (with_reducible exact LeO.refl _)
   | (with_reducible exact LeO.none _)
   | (with_reducible refine LeO.ite ?_ ?_)
   | (with_reducible refine LeO.bind ?_ (fun _ => ?_))
   | exact ih0 _ _ _ _
   | exact csum_Right.mono _ _
   | exact octets_Get.mono _ _ _ _
   | exact LeO.none _
   | refine LeO.ite ?_ ?_
   | refine LeO.bind ?_ (fun _ => ?_)
theorem inet_read.mono : ∀ a0 k, LeO (inet_read.f k a0) (inet_read.f (k + 1) a0) := by
 intro a0 k
 have ih0 := inet_read.mono_l k
 unfold inet_read.f
 repeat' first
   | (with_reducible exact ih0 _ _ _ _)
   | (with_reducible exact csum_Right.mono _ _)
   | (with_reducible exact octets_Get.mono _ _ _ _)
   | (with_reducible exact LeO.refl _)
   | (with_reducible exact LeO.none _)
   | (with_reducible refine LeO.ite ?_ ?_)
   | (with_reducible refine LeO.bind ?_ (fun _ => ?_))
   | exact ih0 _ _ _ _
   | exact csum_Right.mono _ _
   | exact octets_Get.mono _ _ _ _
   | exact LeO.none _
   | refine LeO.ite ?_ ?_
   | refine LeO.bind ?_ (fun _ => ?_)
def inet_read.T14 : Bool × List (List Nat × List Nat) := (true, [([], []), ([0], [0]), ([1], [1]), ([], []), ([3], [3]), ([], []), ([5], [5]), ([6], [6]), ([], []), ([8], [8]), ([9], [9]), ([], []), ([11], [11]), ([], []), ([13], [13]), ([14], [14]), ([], []), ([16], [16]), ([17], [17]), ([2, 4, 7, 10, 12, 15, 18], [2, 4, 7, 10, 12, 15, 18]), ([], []), ([20, 19, 4, 0, 1, 2, 3, 4, 5, 6, 7, 8, 9, 10, 11, 12, 13, 14, 15, 16, 17, 18, 19, 20], [19, 20])])
def inet_read.B14 : List Nat := [0, 1, 3, 0, 8, 0, 32, 96, 0, 256, 768, 0, 2048, 0, 8192, 24576, 0, 65536, 196608, 524287, 0, 2097151]
theorem inet_read.tab14 : rtab .any (opsOf Tryd.f75 14) = inet_read.T14 := by kernel_rfl
theorem inet_read.bits14 : waitsOk inet_read.T14.2 inet_read.B14 = true := by kernel_rfl
def inet_read.T15 : Bool × List (List Nat × List Nat) := (true, [([], []), ([0], [0]), ([], []), ([2], [2]), ([], []), ([], []), ([4, 5], [4, 5]), ([0, 1], []), ([7, 1, 0, 1], [1, 7]), ([0, 1, 2, 3, 7, 8], []), ([9, 3, 8, 0, 1, 2, 3, 7, 8], [3, 9]), ([0, 1, 2, 3, 4, 5, 6, 7, 8, 9, 10], []), ([11, 6, 10, 0, 1, 2, 3, 4, 5, 6, 7, 8, 9, 10], [6, 11])])
def inet_read.B15 : List Nat := [0, 1, 0, 4, 0, 0, 48, 3, 131, 399, 911, 2047, 4095]
theorem inet_read.tab15 : rtab .any (opsOf Tryd.f75 15) = inet_read.T15 := by kernel_rfl
theorem inet_read.bits15 : waitsOk inet_read.T15.2 inet_read.B15 = true := by kernel_rfl
theorem z12_0 {p : Prop} (h : p := by
 simp only [Option.some.injEq, Prod.mk.injEq] at H
 obtain ⟨rfl, rfl, rfl, rfl, rfl, rfl, rfl, rfl, rfl, rfl, rfl⟩ := H
 obtain ⟨hczz0_0, hczz0_1, hczz0_2, hczz0_3, hczz0_4, hczz0_5, hczz0_6, hczz0_7, hczz0_8, hczz0_9⟩ := cells10 BK128.out
 obtain ⟨hfzz0_0, hfzz0_1, hfzz0_2, hfzz0_3, hfzz0_4, hfzz0_5, hfzz0_6, hfzz0_7, hfzz0_8, hfzz0_9⟩ := frozen10 BK128.out
 go_wp2_with (first | ((with_reducible refine gate_st (ty := 64) rfl ?_); refine storeC10 rfl rfl rfl rfl rfl qot3 qr2c qg3m rfl ?_) | ((with_reducible refine gate_ld (ty := 64) rfl ?_); (try (with_reducible refine gate_gd rfl ?_; refine gate_guard q8ju ?_; dsimp only)); refine load_st rfl rfl rfl qot3 qr2c Tryd.underlying64 rfl qg3m ?_; (try simp only [Act.put, List.setIfInBounds_toArray, List.set_cons_zero, List.set_cons_succ])) | go_in)
 refine bodyPost_ret (results_ct rfl _ _ gb128 64 #[.int .i64 0, .int .i64 0, .bool false, .bool false, .int .i64 0, .int .i64 0, .int .i64 0, .int .u32 0, .int .u32 0, .string (⟨#[]⟩ : ByteArray)] (0, 0) _ rfl q8x1 Tryd.underlying64 rfl qg3m) rfl ?_
 exact ⟨qxu5, q542⟩) : p := h
theorem z12_1 {p : Prop} (h : p := by
 show Act.put _ (some 71) _ = _
 simp only [Act.put, List.setIfInBounds_toArray, List.set_cons_zero, List.set_cons_succ, i64_w, i32_w]
 rfl) : p := h
theorem z12_2 {p : Prop} (h : p := by
 show Act.put _ (some 10) _ = _
 simp only [Act.put, List.setIfInBounds_toArray, List.set_cons_zero, List.set_cons_succ, i64_w, i32_w]
 rfl) : p := h
set_option maxHeartbeats 8000000 in
set_option maxRecDepth 100000 in
theorem inet_read.calls (k : Nat) (a0 : ByteArray) (r1 : Int) (r2 : Int) (r3 : Bool) (r4 : Bool) (r5 : Int) (r6 : Int) (r7 : Int) (r8 : Int) (r9 : Int) (r10 : ByteArray) (r11 : Option Int) (w : World) (h : inet_read.f k a0 = some (r1, r2, r3, r4, r5, r6, r7, r8, r9, r10, r11)) :
  Calls Tryd.prog 75 #[.string a0] w fun e w' => e = .returned (.tuple #[.agg #[.int .i64 r1, .int .i64 r2, .bool r3, .bool r4, .int .i64 r5, .int .i64 r6, .int .i64 r7, .int .u32 r8, .int .u32 r9, .string r10], errW r11]) ∧ Below w.heap.size w w' := by
 have hu64 := Tryd.underlying64
 have hu140 := Tryd.underlying140
 have hu51 := Tryd.underlying51
 have HB := Aside0.mk (Below.refl w.heap.size w)
 have H := h
 unfold inet_read.f at H
 clear h
 by_cases c2 : (a0.size : Int) < 20
 ·rw [if_pos c2] at H
  have c2b0 : decide ((a0.size : Int) < 20) = true := decide_eq_true c2
  have c2b1 : decide (a0.size < 20) = true := decide_eq_true q1jy
  clear c2
  simp only [Option.some.injEq, Prod.mk.injEq] at H
  obtain ⟨rfl, rfl, rfl, rfl, rfl, rfl, rfl, rfl, rfl, rfl, rfl⟩ := H
  go_enter Tryd.func75, Tryd.ntmps75
  go_wp2_with (first | ((with_reducible refine gate_st (ty := 64) rfl ?_); refine storeC10 rfl rfl rfl rfl rfl qot3 qr2c qg3m rfl ?_) | ((with_reducible refine gate_ld (ty := 64) rfl ?_); (try (with_reducible refine gate_gd rfl ?_; refine gate_guard q8ju ?_; dsimp only)); refine load_st rfl rfl rfl qot3 qr2c Tryd.underlying64 rfl qg3m ?_; (try simp only [Act.put, List.setIfInBounds_toArray, List.set_cons_zero, List.set_cons_succ])) | ((with_reducible refine gate_dst (N := 2) rfl ?_); refine box_event qgcr (N := 2) qgcr (cs := #[.int .i64 0, .int .i64 0, .bool false, .bool false, .int .i64 0, .int .i64 0, .int .i64 0, .int .u32 0, .int .u32 0, .string (⟨#[]⟩ : ByteArray)]) (t := 64) qlto ?_; intro gb128 hg w3 hbox hb; have BK128 := Aside0.mk (hbox); have GE128 := Aside0.mk ((qisx : w.heap.size ≤ gb128)); replace HB := Aside0.mk (below_step qpag hb); clear hb hbox hg; obtain ⟨hcz4_0, hcz4_1, hcz4_2, hcz4_3, hcz4_4, hcz4_5, hcz4_6, hcz4_7, hcz4_8, hcz4_9⟩ := cells10 BK128.out; obtain ⟨hfz4_0, hfz4_1, hfz4_2, hfz4_3, hfz4_4, hfz4_5, hfz4_6, hfz4_7, hfz4_8, hfz4_9⟩ := frozen10 BK128.out))
  refine bodyPost_ret (results_ct rfl _ _ gb128 64 #[.int .i64 0, .int .i64 0, .bool false, .bool false, .int .i64 0, .int .i64 0, .int .i64 0, .int .u32 0, .int .u32 0, .string (⟨#[]⟩ : ByteArray)] (0, 0) _ rfl q8x1 Tryd.underlying64 rfl qg3m) rfl ?_
  exact ⟨qxu5, q542⟩
 ·rw [if_neg c2] at H
  have c2b0 : decide ((a0.size : Int) < 20) = false := decide_eq_false c2
  have c2b1 : decide (a0.size < 20) = false := decide_eq_false q1jy
  clear c2
  by_cases c5 : 0 < (a0.size : Int)
  ·rw [if_pos c5] at H
   have c5b0 : decide (0 < (a0.size : Int)) = true := decide_eq_true c5
   have c5b1 : decide (0 < a0.size) = true := decide_eq_true q1jy
   clear c5
   by_cases c7 : (bt a0 0) = 69
   ·rw [if_pos c7] at H
    have c7b0 : ((bt a0 0) == 69) = true := beq_iff_eq.mpr c7
    have c7b1 : ((bt a0 0) != 69) = false := bne_eq_false_iff_eq.mpr c7
    clear c7
    by_cases c8 : 0 ≤ 20
    ·rw [if_pos c8] at H
     have c8b0 := eq_true c8
     have c8b1 : decide (0 ≤ 20) = true := decide_eq_true c8
     clear c8
     by_cases c9 : 20 ≤ (a0.size : Int)
     ·rw [if_pos c9] at H
      have c9b0 := eq_true c9
      have c9b1 : decide (20 ≤ (a0.size : Int)) = true := decide_eq_true c9
      clear c9
      obtain ⟨y129, hy129⟩ : ∃ y_ : List ByteArray, y_ = (([a0.extract 0 20] : List ByteArray)) := ⟨_, rfl⟩
      replace H : ((csum_Right.f k y129).bind fun t132 => (if t132 = true then ((inet_get.f a0 2).bind fun t133 => ((inet_get.f a0 6).bind fun t134 => (if t133 < 20 then (inet_read.j0 k a0 t133 t134 true) else (inet_read.j0 k a0 t133 t134 ((Go.bits .and .i64 t134 32768) != 0))))) else (some (0, 0, false, false, 0, 0, 0, 0, 0, (⟨#[]⟩ : ByteArray), some 62)))) = some (r1, r2, r3, r4, r5, r6, r7, r8, r9, r10, r11) := by first | (rw [hy129]; with_reducible exact H) | (have H2_ := (Option.bind_some _ _).symm.trans H; rw [hy129]; with_reducible exact H2_) | (have H2_ := (Option.bind_some _ _).symm.trans H; with_reducible exact H2_) | with_reducible exact H | (rw [hy129]; exact H) | exact H
      have Ny129 := Aside0.mk hy129
      clear hy129
      replace H := Option.bind_eq_some_iff.mp H
      obtain ⟨t132, A100, H⟩ := H
      try dsimp only at H
      have A10 := Aside0.mk A100
      clear A100
      by_cases c11 : t132 = true
      ·subst c11
       rw [if_pos rfl] at H
       replace H := Option.bind_eq_some_iff.mp H
       obtain ⟨t133, A120, H⟩ := H
       try dsimp only at H
       have A12 := Aside0.mk A120
       clear A120
       replace H := Option.bind_eq_some_iff.mp H
       obtain ⟨t134, A130, H⟩ := H
       try dsimp only at H
       have A13 := Aside0.mk A130
       clear A130
       have HC14 := Aside0.mk H
       clear H
       go_enter Tryd.func75, Tryd.ntmps75
       go_upto_region 8 with (first | ((with_reducible refine gate_st (ty := 64) rfl ?_); refine storeC10 rfl rfl rfl rfl rfl qot3 qr2c qg3m rfl ?_) | ((with_reducible refine gate_ld (ty := 64) rfl ?_); (try (with_reducible refine gate_gd rfl ?_; refine gate_guard q8ju ?_; dsimp only)); refine load_st rfl rfl rfl qot3 qr2c Tryd.underlying64 rfl qg3m ?_; (try simp only [Act.put, List.setIfInBounds_toArray, List.set_cons_zero, List.set_cons_succ])) | ((with_reducible refine gate_dst (N := 2) rfl ?_); refine box_event qgcr (N := 2) qgcr (cs := #[.int .i64 0, .int .i64 0, .bool false, .bool false, .int .i64 0, .int .i64 0, .int .i64 0, .int .u32 0, .int .u32 0, .string (⟨#[]⟩ : ByteArray)]) (t := 64) qlto ?_; intro gb128 hg w15 hbox hb; have BK128 := Aside0.mk (hbox); have GE128 := Aside0.mk ((qisx : w.heap.size ≤ gb128)); replace HB := Aside0.mk (below_step qpag hb); clear hb hbox hg; have p6 : 0 ≤ (0 : Int) := q1jy; have q6 : 0 < a0.size := q1al; have hx6 : ∀ h : 0 < a0.size, ((a0[0]'h).toNat : Int) = bt a0 0 := bt_at a0 0; clear p6; have qi6 : (0 < (a0.size : Int)) = True := eq_true (of_decide_eq_true qlss); replace q6 := eq_true q6) | ((with_reducible refine gate_dst (N := 28) rfl ?_); refine Kd.R_lit Kd.string _ 9 ?hg (N := 28) ?hd (xs := ([a0.extract 0 20] : List ByteArray)) (inner := [.string (a0.extract 0 20)]) (ok := fun _ => True) (okp := fun _ => True) ?hr ?hp (fun _ hk => hk) trivial (Below.refl _ _) (Nat.le_refl _) q6hr ?_; (case hd => rfl); (case hg => rfl); (case hr => first | (go_simp; done) | (go_simp; rfl)); (case hp => exact (Reps.one (show Kd.M Kd.string _ _ _ (a0.extract 0 20) [.string (a0.extract 0 20)] from rfl) (Reps.none _ _))); intro v130 w16 ho17 hb hg_ hnew_; clear hg_ hnew_; (first | rw [← Ny129.out] at ho17 | (simp only [Int.reduceToNat] at ho17; rw [← Ny129.out] at ho17)); have HO131 := Aside0.mk (Kd.R_lower ho17 (below_size q542)); replace BK128 := Aside0.mk (blk_below (g := gb128) q0jj hb); replace HB := Aside0.mk (below_step q542 hb); clear hb ho17; obtain ⟨Ao18, co18, eo18⟩ := Kd.R_slice HO131.out; subst eo18) | ((with_reducible refine gate_callee (f := 80) rfl ?_); refine goesL_ (some 29) rfl rfl Tryd.func80 qg3m rfl #[.slice Ao18 y129.length co18] rfl qraq ?_; (with_reducible refine (csum_Right.calls k _ _ y129 true _ ?side1 ?side2 A10.out).mono ?_); (case side1 => repeat (first | exact (Kd.R_reads' HO131.out).2.2 | (with_reducible refine Kd.C_alloc ?_ _) | (with_reducible refine Kd.C_drewN ?_ _) | (with_reducible refine Kd.C_drew ?_))); (case side2 => exact (Kd.R_reads' HO131.out).2.1); rintro e w19 ⟨rfl, hb⟩; refine ⟨_, rfl, ?_⟩; replace HO131 := Aside0.mk (Kd.R_below (by (with_reducible repeat (first | apply Kd.R_alloc | apply Kd.R_drewN | apply Kd.R_drew)); exact HO131.out) hb); replace BK128 := Aside0.mk (blk_below (g := gb128) q0jj hb); replace HB := Aside0.mk (below_step q542 hb); (try clear hb); (try clear hb2); (try clear hk); (try clear hi)) | ((with_reducible refine gate_callee (f := 81) rfl ?_); refine goesL_ (some 35) rfl rfl Tryd.func81 qg3m rfl #[.string a0, .int .i64 2] rfl qraq ?_; (with_reducible refine (inet_get.calls a0 2 t133 _ A12.out).mono ?_); rintro e w' ⟨rfl, ⟨nd, rfl⟩⟩; refine ⟨_, rfl, ?_⟩) | ((with_reducible refine gate_callee (f := 81) rfl ?_); refine goesL_ (some 37) rfl rfl Tryd.func81 qg3m rfl #[.string a0, .int .i64 6] rfl qraq ?_; (with_reducible refine (inet_get.calls a0 6 t134 _ A13.out).mono ?_); rintro e w' ⟨rfl, ⟨nd, rfl⟩⟩; refine ⟨_, rfl, ?_⟩))
       (try simp only [Act.put, List.setIfInBounds_toArray, List.set_cons_zero, List.set_cons_succ])
       go_cut [38] (fun v38 wc => ∃ (kq : Nat) (x38_13 : Bool), v38 = .bool x38_13 ∧ Aside0 (inet_read.j0 kq a0 t133 t134 x38_13 = some (r1, r2, r3, r4, r5, r6, r7, r8, r9, r10, r11)) ∧ Aside0 (kq ≤ k) ∧ Aside0 (wc.heap[gb128]? = some (.cells #[.int .i64 0, .int .i64 0, .bool false, .bool false, .int .i64 0, .int .i64 0, .int .i64 0, .int .u32 0, .int .u32 0, .string (⟨#[]⟩ : ByteArray)] 64 (0, 0))) ∧ Aside0 (Below w.heap.size w wc))
       case first =>
        have H := HC14.out
        clear HC14
        by_cases c20 : t133 < 20
        ·rw [if_pos c20] at H
         have c20b0 : decide (t133 < 20) = true := decide_eq_true c20
         clear c20
         (first | rw [c20b0] | (simp only [i64_w, i32_w]; rw [c20b0]) | skip)
         have H' := Aside0.mk H
         clear H
         go_wp2_with (first | ((with_reducible refine gate_st (ty := 64) rfl ?_); refine storeC10 rfl rfl rfl rfl rfl qot3 qr2c qg3m rfl ?_) | ((with_reducible refine gate_ld (ty := 64) rfl ?_); (try (with_reducible refine gate_gd rfl ?_; refine gate_guard q8ju ?_; dsimp only)); refine load_st rfl rfl rfl qot3 qr2c Tryd.underlying64 rfl qg3m ?_; (try simp only [Act.put, List.setIfInBounds_toArray, List.set_cons_zero, List.set_cons_succ])) | go_in)
         go_meet
         case rel => exact ⟨_, (true), q8z4, H', ⟨qpfc⟩, ⟨q0jj⟩, ⟨q542⟩⟩
        ·rw [if_neg c20] at H
         have c20b0 : decide (t133 < 20) = false := decide_eq_false c20
         clear c20
         (first | rw [c20b0] | (simp only [i64_w, i32_w]; rw [c20b0]) | skip)
         have H' := Aside0.mk H
         clear H
         go_wp2_with (first | ((with_reducible refine gate_st (ty := 64) rfl ?_); refine storeC10 rfl rfl rfl rfl rfl qot3 qr2c qg3m rfl ?_) | ((with_reducible refine gate_ld (ty := 64) rfl ?_); (try (with_reducible refine gate_gd rfl ?_; refine gate_guard q8ju ?_; dsimp only)); refine load_st rfl rfl rfl qot3 qr2c Tryd.underlying64 rfl qg3m ?_; (try simp only [Act.put, List.setIfInBounds_toArray, List.set_cons_zero, List.set_cons_succ])) | go_in)
         go_meet
         case rel => exact ⟨_, (((Go.bits .and .i64 t134 32768) != 0)), q8z4, H', ⟨qpfc⟩, ⟨q0jj⟩, ⟨q542⟩⟩
       case rest =>
        clear HC14
        try clear c1
        try clear c2
        try clear c2b0
        try clear c2b1
        try clear p2
        try clear c5
        try clear c5b0
        try clear c5b1
        try clear p6
        try clear q6
        try clear hx6
        try clear qi6
        try clear c7
        try clear c7b0
        try clear c7b1
        try clear c8
        try clear c8b0
        try clear c8b1
        try clear c9
        try clear c9b0
        try clear c9b1
        try clear c11
        try clear c20
        try clear c20b0
        try clear p6
        try clear q6
        obtain ⟨kq, x38_13, rfl, HA, HJ13, BK128, HB⟩ := hcut
        cases kq with
        | zero => exact absurd HA.out (by simp [inet_read.j0])
        | succ kj13 =>
         have H := HA.out
         clear HA
         simp only [inet_read.j0] at H
         by_cases c21 : x38_13 = true
         ·subst c21
          rw [if_pos rfl] at H
          exact z12_0
         ·replace c21 := Bool.eq_false_iff.mpr c21
          subst c21
          rw [if_neg (show ¬ (false = true) by decide)] at H
          by_cases c23 : t133 > (a0.size : Int)
          ·rw [if_pos c23] at H
           have c23b0 : decide ((a0.size : Int) < t133) = true := decide_eq_true c23
           clear c23
           exact z12_0
          ·rw [if_neg c23] at H
           have c23b0 : decide ((a0.size : Int) < t133) = false := decide_eq_false c23
           clear c23
           replace H := Option.bind_eq_some_iff.mp H
           obtain ⟨⟨t135, t136⟩, A250, H⟩ := H
           try dsimp only at H
           have A25 := Aside0.mk A250
           clear A250
           replace H := Option.bind_eq_some_iff.mp H
           obtain ⟨⟨t137, t138⟩, A260, H⟩ := H
           try dsimp only at H
           have A26 := Aside0.mk A260
           clear A260
           by_cases c27 : 1 < (a0.size : Int)
           ·rw [if_pos c27] at H
            have c27b0 : decide (1 < (a0.size : Int)) = true := decide_eq_true c27
            have c27b1 : decide (1 < a0.size) = true := decide_eq_true q1jy
            clear c27
            replace H := Option.bind_eq_some_iff.mp H
            obtain ⟨t139, A290, H⟩ := H
            try dsimp only at H
            have A29 := Aside0.mk A290
            clear A290
            by_cases c30 : 8 < (a0.size : Int)
            ·rw [if_pos c30] at H
             have c30b0 : decide (8 < (a0.size : Int)) = true := decide_eq_true c30
             have c30b1 : decide (8 < a0.size) = true := decide_eq_true q1jy
             clear c30
             by_cases c32 : 9 < (a0.size : Int)
             ·rw [if_pos c32] at H
              have c32b0 : decide (9 < (a0.size : Int)) = true := decide_eq_true c32
              have c32b1 : decide (9 < a0.size) = true := decide_eq_true q1jy
              clear c32
              by_cases c34 : 20 ≤ t133
              ·rw [if_pos c34] at H
               have c34b0 := eq_true c34
               have c34b1 : decide (20 ≤ t133) = true := decide_eq_true c34
               clear c34
               by_cases c35 : t133 ≤ (a0.size : Int)
               ·rw [if_pos c35] at H
                have c35b0 := eq_true c35
                have c35b1 : decide (t133 ≤ (a0.size : Int)) = true := decide_eq_true c35
                clear c35
                simp only [Option.some.injEq, Prod.mk.injEq] at H
                obtain ⟨rfl, rfl, rfl, rfl, rfl, rfl, rfl, rfl, rfl, rfl, rfl⟩ := H
                try go_wp2_with (first | ((with_reducible refine gate_st (ty := 64) rfl ?_); refine storeC10 rfl rfl rfl rfl rfl qot3 qr2c qg3m rfl ?_) | ((with_reducible refine gate_ld (ty := 64) rfl ?_); (try (with_reducible refine gate_gd rfl ?_; refine gate_guard q8ju ?_; dsimp only)); refine load_st rfl rfl rfl qot3 qr2c Tryd.underlying64 rfl qg3m ?_; (try simp only [Act.put, List.setIfInBounds_toArray, List.set_cons_zero, List.set_cons_succ])) | ((with_reducible refine gate_callee (f := 56) rfl ?_); refine goesL_ (some 59) rfl rfl Tryd.func56 qg3m rfl #[.string a0, .int .i64 12, .int .i64 4] rfl qraq ?_; (with_reducible refine (octets_Get.calls kj13 a0 12 4 t135 t136 _ A25.out).mono ?_); rintro e w36 ⟨rfl, hb⟩; refine ⟨_, rfl, ?_⟩; replace BK128 := Aside0.mk (blk_below (g := gb128) q0jj hb); replace HB := Aside0.mk (below_step q542 hb); obtain ⟨hcy1_128_0, hcy1_128_1, hcy1_128_2, hcy1_128_3, hcy1_128_4, hcy1_128_5, hcy1_128_6, hcy1_128_7, hcy1_128_8, hcy1_128_9⟩ := cells10 BK128.out; (try clear hb); (try clear hb2); (try clear hk); (try clear hi)) | ((with_reducible refine gate_callee (f := 56) rfl ?_); refine goesL_ (some 64) rfl rfl Tryd.func56 qg3m rfl #[.string a0, .int .i64 16, .int .i64 4] rfl qraq ?_; (with_reducible refine (octets_Get.calls kj13 a0 16 4 t137 t138 _ A26.out).mono ?_); rintro e w37 ⟨rfl, hb⟩; refine ⟨_, rfl, ?_⟩; replace BK128 := Aside0.mk (blk_below (g := gb128) q0jj hb); replace HB := Aside0.mk (below_step q542 hb); obtain ⟨hcy2_128_0, hcy2_128_1, hcy2_128_2, hcy2_128_3, hcy2_128_4, hcy2_128_5, hcy2_128_6, hcy2_128_7, hcy2_128_8, hcy2_128_9⟩ := cells10 BK128.out; (try clear hb); (try clear hb2); (try clear hk); (try clear hi)))
                replace BK128 := Aside0.mk (blk_drew BK128.out)
                replace HB := Aside0.mk (below_drew1 HB.out)
                have p28 : 0 ≤ (1 : Int) := q1jy
                have q28 : 1 < a0.size := (by have : (1 : Int) < (a0.size : Int) := of_decide_eq_true qlss; omega)
                have hx28 : ∀ h : 1 < a0.size, ((a0[1]'h).toNat : Int) = bt a0 1 := bt_at a0 1
                clear p28
                have qi28 : (1 < (a0.size : Int)) = True := eq_true (of_decide_eq_true qlss)
                replace q28 := eq_true q28
                have p31 : 0 ≤ (8 : Int) := q1jy
                have q31 : 8 < a0.size := (by have : (8 : Int) < (a0.size : Int) := of_decide_eq_true qlss; omega)
                have hx31 : ∀ h : 8 < a0.size, ((a0[8]'h).toNat : Int) = bt a0 8 := bt_at a0 8
                clear p31
                have qi31 : (8 < (a0.size : Int)) = True := eq_true (of_decide_eq_true qlss)
                replace q31 := eq_true q31
                have p33 : 0 ≤ (9 : Int) := q1jy
                have q33 : 9 < a0.size := (by have : (9 : Int) < (a0.size : Int) := of_decide_eq_true qlss; omega)
                have hx33 : ∀ h : 9 < a0.size, ((a0[9]'h).toNat : Int) = bt a0 9 := bt_at a0 9
                clear p33
                have qi33 : (9 < (a0.size : Int)) = True := eq_true (of_decide_eq_true qlss)
                replace q33 := eq_true q33
                refine start_ (n := 22) (S := fun w' => True) (ds := []) (ba 22 0) qg3m rfl rfl trivial (fun hHeld => ?_); refine with_tabW inet_read.tab14 inet_read.bits14 (fun HT_ HW_ => ?_)
                generalize w37.drew = w38 at BK128 HB hHeld ⊢
                refine pu_c3d (i := 0) (N := some 67) (ba 22 1) ?_
                refine pu_c3d (i := 3) (N := some 70) (ba 22 9) ?_
                refine pu_c3d (i := 5) (N := some 72) (ba 22 41) ?_
                refine pu_c3d (i := 6) (N := some 73) (ba 22 105) ?_
                refine pu_c3d (i := 7) (N := some 74) (ba 22 233) ?_
                refine pu_c3d (i := 8) (N := some 75) (ba 22 489) ?_
                refine pu_c3d (i := 9) (N := some 76) (ba 22 1001) ?_
                refine pu_c3d (i := 10) (N := some 77) (ba 22 2025) ?_
                refine pu_c3d (i := 11) (N := some 78) (ba 22 4073) ?_
                refine pu_c3d (i := 12) (N := some 79) (ba 22 8169) ?_
                refine pu_c3d (i := 13) (N := some 80) (ba 22 16361) ?_
                refine pu_c3d (i := 16) (N := some 83) (ba 22 81897) ?_
                refine tk_684 (i := 1) (N := some 68) (ba 22 81899) hHeld ?_
                refine pu_c3d (i := 2) (N := some 69) (ba 22 81903) ?_
                refine tk_684 (i := 14) (N := some 81) (ba 22 98287) hHeld ?_
                refine pu_c3d (i := 15) (N := some 82) (ba 22 131055) ?_
                refine tk_684 (i := 17) (N := some 84) (ba 22 262127) hHeld ?_
                refine pu_c3d (i := 18) (N := some 85) (ba 22 524271) ?_
                refine join_ (σ := Nat) 1 (ba 22 2097151) (fun s_ => [(71, .int .i64 t139), (10, .pointer (some ⟨s_, 0, none⟩)), (86, .agg #[.int .i64 (wrap64 (bt a0 1)), .int .i64 t139, .bool ((Go.bits .and .i64 t134 16384) != 0), .bool ((Go.bits .and .i64 t134 8192) != 0), .int .i64 (Int.tmod t134 8192), .int .i64 (wrap64 (bt a0 8)), .int .i64 (wrap64 (bt a0 9)), .int .u32 0, .int .u32 0, .string (⟨#[]⟩ : ByteArray)])]) (fun s_ w' => (w'.heap[gb128]? = some (.cells #[.int .i64 0, .int .i64 0, .bool false, .bool false, .int .i64 0, .int .i64 0, .int .i64 0, .int .u32 0, .int .u32 0, .string (⟨#[]⟩ : ByteArray)] 64 (0, 0))) ∧ (w'.heap[s_]? = some (.cells #[.int .i64 0, .int .i64 0, .bool false, .bool false, .int .i64 0, .int .i64 0, .int .i64 0, .int .u32 0, .int .u32 0, .string (⟨#[]⟩ : ByteArray)] 64 (0, 0))) ∧ (w.heap.size ≤ s_) ∧ (w.heap.size ≤ s_) ∧ (gb128 ≠ s_) ∧ (s_ ≠ gb128) ∧ (Below w.heap.size w w')) ?_ ?_
                rotate_left
                ·intro hCont
                 refine two_ (i := 4) (j := 20) (Ni := some 71) (Nj := some 10) (ba 22 524287) (ba 22 1572847) rfl rfl rfl rfl (two_of HT_.out qg3m) qomw qomw (fun K hK => ?_) (fun K hK => ?_)
                 ·skip
                  refine goes_ Tryd.func81 qg3m rfl #[.string a0, .int .i64 4] qlo1 rfl rfl qraq ?_
                  with_reducible refine (inet_get.calls a0 4 t139 _ A29.out).mono ?_
                  rintro e w' ⟨rfl, ⟨nd, rfl⟩⟩
                  refine ⟨_, rfl, ?_⟩
                  refine hK.out _ _ trivial (fun hHeld => ?_)
                  clear hK K
                  refine norm_ (a' := ?_) ?_ ?_
                  rotate_left
                  ·exact z12_1
                  refine pu_c3d (i := 19) (N := some 86) (ba 22 1048575) ?_
                  refine one_ (i := 20) (N := some 10) (ba 22 2097151) rfl rfl (one_of HT_.out qg3m) qomw (fun K hK => ?_)
                  refine box_step ?hg (N := 10) ?hd (cs := #[.int .i64 0, .int .i64 0, .bool false, .bool false, .int .i64 0, .int .i64 0, .int .i64 0, .int .u32 0, .int .u32 0, .string (⟨#[]⟩ : ByteArray)]) (t := 64) ?hr ?_; (case hd => rfl); (case hg => rfl); (case hr => first | (go_simp; done) | (go_simp; rfl))
                  intro gb140 hg w39 hbox hb
                  have BK140 := Aside0.mk (hbox)
                  have GW140 := Aside0.mk ((by rw [hg]; exact (below_size q542) : w.heap.size ≤ gb140))
                  have GE140 := Aside0.mk ((by rw [hg]; exact (below_size q542) : w.heap.size ≤ gb140))
                  have NB128_140 := Aside0.mk ((qlkt : gb128 ≠ gb140))
                  have NB140_128 := Aside0.mk ((q6fu : gb140 ≠ gb128))
                  replace BK128 := Aside0.mk (blk_below (g := gb128) (o := .cells #[.int .i64 0, .int .i64 0, .bool false, .bool false, .int .i64 0, .int .i64 0, .int .i64 0, .int .u32 0, .int .u32 0, .string (⟨#[]⟩ : ByteArray)] 64 (0, 0)) q0jj hb)
                  replace HB := Aside0.mk (below_step q542 hb)
                  clear hb hbox hg
                  refine hK.out _ _ trivial (fun hHeld => ?_)
                  clear hK K
                  refine norm_ (a' := ?_) ?_ ?_
                  rotate_left
                  ·exact z12_2
                  exact norm_ (by simp only [putAll, Act.put, List.setIfInBounds_toArray, List.set_cons_zero, List.set_cons_succ]) (hCont (gb140) _ ⟨q0jj, ql34, GW140.out, GE140.out, NB128_140.out, NB140_128.out, q0qh⟩)
                 ·skip
                  refine box_step ?hg (N := 10) ?hd (cs := #[.int .i64 0, .int .i64 0, .bool false, .bool false, .int .i64 0, .int .i64 0, .int .i64 0, .int .u32 0, .int .u32 0, .string (⟨#[]⟩ : ByteArray)]) (t := 64) ?hr ?_; (case hd => rfl); (case hg => rfl); (case hr => first | (go_simp; done) | (go_simp; rfl))
                  intro gb140 hg w39 hbox hb
                  have BK140 := Aside0.mk (hbox)
                  have GW140 := Aside0.mk ((by rw [hg]; exact (below_size q542) : w.heap.size ≤ gb140))
                  have GE140 := Aside0.mk ((by rw [hg]; exact (below_size q542) : w.heap.size ≤ gb140))
                  have NB128_140 := Aside0.mk ((qlkt : gb128 ≠ gb140))
                  have NB140_128 := Aside0.mk ((q6fu : gb140 ≠ gb128))
                  replace BK128 := Aside0.mk (blk_below (g := gb128) (o := .cells #[.int .i64 0, .int .i64 0, .bool false, .bool false, .int .i64 0, .int .i64 0, .int .i64 0, .int .u32 0, .int .u32 0, .string (⟨#[]⟩ : ByteArray)] 64 (0, 0)) q0jj hb)
                  replace HB := Aside0.mk (below_step q542 hb)
                  clear hb hbox hg
                  refine hK.out _ _ trivial (fun hHeld => ?_)
                  clear hK K
                  refine norm_ (a' := ?_) ?_ ?_
                  rotate_left
                  ·exact z12_2
                  refine one_ (i := 4) (N := some 71) (ba 22 1572863) rfl rfl (one_of HT_.out qg3m) qomw (fun K hK => ?_)
                  refine goes_ Tryd.func81 qg3m rfl #[.string a0, .int .i64 4] qlo1 rfl rfl qraq ?_
                  with_reducible refine (inet_get.calls a0 4 t139 _ A29.out).mono ?_
                  rintro e w' ⟨rfl, ⟨nd, rfl⟩⟩
                  refine ⟨_, rfl, ?_⟩
                  refine hK.out _ _ trivial (fun hHeld => ?_)
                  clear hK K
                  refine norm_ (a' := ?_) ?_ ?_
                  rotate_left
                  ·exact z12_1
                  refine pu_c3d (i := 19) (N := some 86) (ba 22 2097151) ?_
                  exact norm_ (by simp only [putAll, Act.put, List.setIfInBounds_toArray, List.set_cons_zero, List.set_cons_succ]) (hCont (gb140) _ ⟨q0jj, ql34, GW140.out, GE140.out, NB128_140.out, NB140_128.out, q0qh⟩)
                rintro gb140 w40 ⟨h0_, h1_, h2_, h3_, h4_, h5_, h6_⟩
                have n0_ : Aside0 (w40.heap[gb128]? = some (.cells #[.int .i64 0, .int .i64 0, .bool false, .bool false, .int .i64 0, .int .i64 0, .int .i64 0, .int .u32 0, .int .u32 0, .string (⟨#[]⟩ : ByteArray)] 64 (0, 0))) := ⟨h0_⟩
                have n1_ : Aside0 (w40.heap[gb140]? = some (.cells #[.int .i64 0, .int .i64 0, .bool false, .bool false, .int .i64 0, .int .i64 0, .int .i64 0, .int .u32 0, .int .u32 0, .string (⟨#[]⟩ : ByteArray)] 64 (0, 0))) := ⟨h1_⟩
                have n2_ : Aside0 (w.heap.size ≤ gb140) := ⟨h2_⟩
                have n3_ : Aside0 (w.heap.size ≤ gb140) := ⟨h3_⟩
                have n4_ : Aside0 (gb128 ≠ gb140) := ⟨h4_⟩
                have n5_ : Aside0 (gb140 ≠ gb128) := ⟨h5_⟩
                have n6_ : Aside0 (Below w.heap.size w w40) := ⟨h6_⟩
                clear BK128
                clear HB
                clear h0_ h1_ h2_ h3_ h4_ h5_ h6_
                have BK128 := n0_
                have BK140 := n1_
                have GW140 := n2_
                have GE140 := n3_
                have NB128_140 := n4_
                have NB140_128 := n5_
                have HB := n6_
                clear n0_ n1_ n2_ n3_ n4_ n5_ n6_
                have hHeld := trivial
                refine norm_ (a' := ?_) ?_ ?_
                rotate_left
                ·simp only [putAll, Act.put, List.setIfInBounds_toArray, List.set_cons_zero, List.set_cons_succ]
                 rfl
                refine one_ (i := 21) (N := none) (ba 22 4194303) rfl rfl (one_of HT_.out qg3m) qomw (fun K hK => ?_)
                have hs41 : w40.cell? ⟨gb140, 0, none⟩ = some (.int .i64 0) := (blk_cell BK140.out 0).trans rfl
                have hfs41 := blk_frozen BK140.out 0
                have hns41_0 := NB128_140.out
                have hms41_0 := NB140_128.out
                have hs42 : w40.cell? ⟨gb140, 1, none⟩ = some (.int .i64 0) := (blk_cell BK140.out 1).trans rfl
                have hfs42 := blk_frozen BK140.out 1
                have hns42_0 := NB128_140.out
                have hms42_0 := NB140_128.out
                have hs43 : w40.cell? ⟨gb140, 2, none⟩ = some (.bool false) := (blk_cell BK140.out 2).trans rfl
                have hfs43 := blk_frozen BK140.out 2
                have hns43_0 := NB128_140.out
                have hms43_0 := NB140_128.out
                have hs44 : w40.cell? ⟨gb140, 3, none⟩ = some (.bool false) := (blk_cell BK140.out 3).trans rfl
                have hfs44 := blk_frozen BK140.out 3
                have hns44_0 := NB128_140.out
                have hms44_0 := NB140_128.out
                have hs45 : w40.cell? ⟨gb140, 4, none⟩ = some (.int .i64 0) := (blk_cell BK140.out 4).trans rfl
                have hfs45 := blk_frozen BK140.out 4
                have hns45_0 := NB128_140.out
                have hms45_0 := NB140_128.out
                have hs46 : w40.cell? ⟨gb140, 5, none⟩ = some (.int .i64 0) := (blk_cell BK140.out 5).trans rfl
                have hfs46 := blk_frozen BK140.out 5
                have hns46_0 := NB128_140.out
                have hms46_0 := NB140_128.out
                have hs47 : w40.cell? ⟨gb140, 6, none⟩ = some (.int .i64 0) := (blk_cell BK140.out 6).trans rfl
                have hfs47 := blk_frozen BK140.out 6
                have hns47_0 := NB128_140.out
                have hms47_0 := NB140_128.out
                have hs48 : w40.cell? ⟨gb140, 7, none⟩ = some (.int .u32 0) := (blk_cell BK140.out 7).trans rfl
                have hfs48 := blk_frozen BK140.out 7
                have hns48_0 := NB128_140.out
                have hms48_0 := NB140_128.out
                have hs49 : w40.cell? ⟨gb140, 8, none⟩ = some (.int .u32 0) := (blk_cell BK140.out 8).trans rfl
                have hfs49 := blk_frozen BK140.out 8
                have hns49_0 := NB128_140.out
                have hms49_0 := NB140_128.out
                have hs50 : w40.cell? ⟨gb140, 9, none⟩ = some (.string (⟨#[]⟩ : ByteArray)) := (blk_cell BK140.out 9).trans rfl
                have hfs50 := blk_frozen BK140.out 9
                have hns50_0 := NB128_140.out
                have hms50_0 := NB140_128.out
                refine skip_ (w1 := ?_) qgcr rfl ?_ ?_
                rotate_left
                ·go_simp
                 rfl
                refine hK.out _ _ trivial (fun hHeld => ?_)
                clear hK K
                refine done_ (done_of HT_.out qg3m) ?_
                try go_wp2_with (first | ((with_reducible refine gate_st (ty := 64) rfl ?_); refine storeC10 rfl rfl rfl rfl rfl qot3 qr2c qg3m rfl ?_) | ((with_reducible refine gate_ld (ty := 64) rfl ?_); (try (with_reducible refine gate_gd rfl ?_; refine gate_guard q8ju ?_; dsimp only)); refine load_st rfl rfl rfl qot3 qr2c Tryd.underlying64 rfl qg3m ?_; (try simp only [Act.put, List.setIfInBounds_toArray, List.set_cons_zero, List.set_cons_succ])) | go_in)
                have n0_ : Aside0 (((((((((((w40.setCell ⟨gb140, 0, none⟩ (.int .i64 (wrap64 (bt a0 1)))).setCell ⟨gb140, 1, none⟩ (.int .i64 t139)).setCell ⟨gb140, 2, none⟩ (.bool ((Go.bits .and .i64 t134 16384) != 0))).setCell ⟨gb140, 3, none⟩ (.bool ((Go.bits .and .i64 t134 8192) != 0))).setCell ⟨gb140, 4, none⟩ (.int .i64 (Int.tmod t134 8192))).setCell ⟨gb140, 5, none⟩ (.int .i64 (wrap64 (bt a0 8)))).setCell ⟨gb140, 6, none⟩ (.int .i64 (wrap64 (bt a0 9)))).setCell ⟨gb140, 7, none⟩ (.int .u32 0)).setCell ⟨gb140, 8, none⟩ (.int .u32 0)).setCell ⟨gb140, 9, none⟩ (.string (⟨#[]⟩ : ByteArray))).heap[gb128]? = some (.cells #[.int .i64 0, .int .i64 0, .bool false, .bool false, .int .i64 0, .int .i64 0, .int .i64 0, .int .u32 0, .int .u32 0, .string (⟨#[]⟩ : ByteArray)] 64 (0, 0))) := ⟨qwha⟩
                have n1_ : Aside0 (((((((((((w40.setCell ⟨gb140, 0, none⟩ (.int .i64 (wrap64 (bt a0 1)))).setCell ⟨gb140, 1, none⟩ (.int .i64 t139)).setCell ⟨gb140, 2, none⟩ (.bool ((Go.bits .and .i64 t134 16384) != 0))).setCell ⟨gb140, 3, none⟩ (.bool ((Go.bits .and .i64 t134 8192) != 0))).setCell ⟨gb140, 4, none⟩ (.int .i64 (Int.tmod t134 8192))).setCell ⟨gb140, 5, none⟩ (.int .i64 (wrap64 (bt a0 8)))).setCell ⟨gb140, 6, none⟩ (.int .i64 (wrap64 (bt a0 9)))).setCell ⟨gb140, 7, none⟩ (.int .u32 0)).setCell ⟨gb140, 8, none⟩ (.int .u32 0)).setCell ⟨gb140, 9, none⟩ (.string (⟨#[]⟩ : ByteArray))).heap[gb140]? = some (.cells #[.int .i64 (wrap64 (bt a0 1)), .int .i64 t139, .bool ((Go.bits .and .i64 t134 16384) != 0), .bool ((Go.bits .and .i64 t134 8192) != 0), .int .i64 (Int.tmod t134 8192), .int .i64 (wrap64 (bt a0 8)), .int .i64 (wrap64 (bt a0 9)), .int .u32 0, .int .u32 0, .string (⟨#[]⟩ : ByteArray)] 64 (0, 0))) := ⟨(by (with_reducible repeat (first | refine blk_drewN ?_ _ | refine blk_drew ?_ | refine blk_alloc ?_ _)); exact put10_0_10 ql34)⟩
                have n2_ : Aside0 (Below w.heap.size w ((((((((((w40.setCell ⟨gb140, 0, none⟩ (.int .i64 (wrap64 (bt a0 1)))).setCell ⟨gb140, 1, none⟩ (.int .i64 t139)).setCell ⟨gb140, 2, none⟩ (.bool ((Go.bits .and .i64 t134 16384) != 0))).setCell ⟨gb140, 3, none⟩ (.bool ((Go.bits .and .i64 t134 8192) != 0))).setCell ⟨gb140, 4, none⟩ (.int .i64 (Int.tmod t134 8192))).setCell ⟨gb140, 5, none⟩ (.int .i64 (wrap64 (bt a0 8)))).setCell ⟨gb140, 6, none⟩ (.int .i64 (wrap64 (bt a0 9)))).setCell ⟨gb140, 7, none⟩ (.int .u32 0)).setCell ⟨gb140, 8, none⟩ (.int .u32 0)).setCell ⟨gb140, 9, none⟩ (.string (⟨#[]⟩ : ByteArray)))) := ⟨q0qh⟩
                (try clear BK128)
                (try clear BK140)
                (try clear HB)
                generalize ((((((((((w40.setCell ⟨gb140, 0, none⟩ (.int .i64 (wrap64 (bt a0 1)))).setCell ⟨gb140, 1, none⟩ (.int .i64 t139)).setCell ⟨gb140, 2, none⟩ (.bool ((Go.bits .and .i64 t134 16384) != 0))).setCell ⟨gb140, 3, none⟩ (.bool ((Go.bits .and .i64 t134 8192) != 0))).setCell ⟨gb140, 4, none⟩ (.int .i64 (Int.tmod t134 8192))).setCell ⟨gb140, 5, none⟩ (.int .i64 (wrap64 (bt a0 8)))).setCell ⟨gb140, 6, none⟩ (.int .i64 (wrap64 (bt a0 9)))).setCell ⟨gb140, 7, none⟩ (.int .u32 0)).setCell ⟨gb140, 8, none⟩ (.int .u32 0)).setCell ⟨gb140, 9, none⟩ (.string (⟨#[]⟩ : ByteArray))) = w51 at n0_ n1_ n2_ ⊢
                have BK128 := n0_
                have BK140 := n1_
                have HB := n2_
                clear n0_ n1_ n2_
                replace BK128 := Aside0.mk (blk_drew BK128.out)
                replace BK140 := Aside0.mk (blk_drew BK140.out)
                replace HB := Aside0.mk (below_drew1 HB.out)
                refine start_ (n := 13) (S := fun w' => True) (ds := []) (ba 13 0) qg3m rfl rfl trivial (fun hHeld => ?_); refine with_tabW inet_read.tab15 inet_read.bits15 (fun HT_ HW_ => ?_)
                generalize w51.drew = w52 at BK128 BK140 HB hHeld ⊢
                refine pu_c3d (i := 0) (N := some 87) (ba 13 1) ?_
                refine pu_c3d (i := 1) (N := some 88) (ba 13 3) ?_
                refine pu_c3d (i := 2) (N := some 89) (ba 13 7) ?_
                refine pu_c3d (i := 3) (N := some 90) (ba 13 15) ?_
                refine pu_c3d (i := 4) (N := some 91) (ba 13 31) ?_
                refine pu_c3d (i := 5) (N := some 92) (ba 13 63) ?_
                refine pu_c3d (i := 6) (N := some 93) (ba 13 127) ?_
                refine pu_c3d (i := 7) (N := some 94) (ba 13 255) ?_
                refine one_ (i := 8) (N := none) (ba 13 511) rfl rfl (one_of HT_.out qg3m) qomw (fun K hK => ?_)
                have hs53 : w52.cell? ⟨gb140, 7, none⟩ = some (.int .u32 0) := (blk_cell BK140.out 7).trans rfl
                have hfs53 := blk_frozen BK140.out 7
                have hns53_0 := NB128_140.out
                have hms53_0 := NB140_128.out
                refine skip_ (w1 := ?_) qgcr rfl ?_ ?_
                rotate_left
                ·go_simp
                 rfl
                refine hK.out _ _ trivial (fun hHeld => ?_)
                clear hK K
                refine pu_c3d (i := 9) (N := some 95) (ba 13 1023) ?_
                refine one_ (i := 10) (N := none) (ba 13 2047) rfl rfl (one_of HT_.out qg3m) qomw (fun K hK => ?_)
                have hs54 : w52.cell? ⟨gb140, 8, none⟩ = some (.int .u32 0) := (blk_cell BK140.out 8).trans rfl
                have hfs54 := blk_frozen BK140.out 8
                have hns54_0 := NB128_140.out
                have hms54_0 := NB140_128.out
                refine skip_ (w1 := ?_) qgcr rfl ?_ ?_
                rotate_left
                ·go_simp
                 rfl
                refine hK.out _ _ trivial (fun hHeld => ?_)
                clear hK K
                refine pu_c3d (i := 11) (N := some 96) (ba 13 4095) ?_
                refine one_ (i := 12) (N := none) (ba 13 8191) rfl rfl (one_of HT_.out qg3m) qomw (fun K hK => ?_)
                have hs55 : w52.cell? ⟨gb140, 9, none⟩ = some (.string (⟨#[]⟩ : ByteArray)) := (blk_cell BK140.out 9).trans rfl
                have hfs55 := blk_frozen BK140.out 9
                have hns55_0 := NB128_140.out
                have hms55_0 := NB140_128.out
                refine skip_ (w1 := ?_) qgcr rfl ?_ ?_
                rotate_left
                ·go_simp
                 rfl
                refine hK.out _ _ trivial (fun hHeld => ?_)
                clear hK K
                refine done_ (done_of HT_.out qg3m) ?_
                have hnb56 := NB140_128.out
                have hnc56 := NB128_140.out
                obtain ⟨hcz57_0, hcz57_1, hcz57_2, hcz57_3, hcz57_4, hcz57_5, hcz57_6, hcz57_7, hcz57_8, hcz57_9⟩ := cells10 BK140.out
                obtain ⟨hfz57_0, hfz57_1, hfz57_2, hfz57_3, hfz57_4, hfz57_5, hfz57_6, hfz57_7, hfz57_8, hfz57_9⟩ := frozen10 BK140.out
                obtain ⟨hcz58_0, hcz58_1, hcz58_2, hcz58_3, hcz58_4, hcz58_5, hcz58_6, hcz58_7, hcz58_8, hcz58_9⟩ := cells10 BK128.out
                obtain ⟨hfz58_0, hfz58_1, hfz58_2, hfz58_3, hfz58_4, hfz58_5, hfz58_6, hfz58_7, hfz58_8, hfz58_9⟩ := frozen10 BK128.out
                try go_wp2_with (first | ((with_reducible refine gate_st (ty := 64) rfl ?_); refine storeC10 rfl rfl rfl rfl rfl qot3 qr2c qg3m rfl ?_) | ((with_reducible refine gate_ld (ty := 64) rfl ?_); (try (with_reducible refine gate_gd rfl ?_; refine gate_guard q8ju ?_; dsimp only)); refine load_st rfl rfl rfl qot3 qr2c Tryd.underlying64 rfl qg3m ?_; (try simp only [Act.put, List.setIfInBounds_toArray, List.set_cons_zero, List.set_cons_succ])) | go_in)
                refine bodyPost_ret (results_ct rfl _ _ gb128 64 #[.int .i64 (wrap64 (bt a0 1)), .int .i64 t139, .bool ((Go.bits .and .i64 t134 16384) != 0), .bool ((Go.bits .and .i64 t134 8192) != 0), .int .i64 (Int.tmod t134 8192), .int .i64 (wrap64 (bt a0 8)), .int .i64 (wrap64 (bt a0 9)), .int .u32 ((t135) % 4294967296), .int .u32 ((t137) % 4294967296), .string (a0.extract 20 (t133 : Int).toNat)] (0, 0) _ rfl (by (with_reducible repeat (first | refine blk_drewN ?_ _ | refine blk_drew ?_ | refine blk_alloc ?_ _)); exact put10_0_10 qwha) Tryd.underlying64 rfl qg3m) rfl ?_
                exact ⟨qxu5, q0qh⟩
               ·rw [if_neg c35] at H
                exact absurd H q6hr
              ·rw [if_neg c34] at H
               exact absurd H q6hr
             ·rw [if_neg c32] at H
              exact absurd H q6hr
            ·rw [if_neg c30] at H
             exact absurd H q6hr
           ·rw [if_neg c27] at H
            exact absurd H q6hr
      ·replace c11 := Bool.eq_false_iff.mpr c11
       subst c11
       rw [if_neg (show ¬ (false = true) by decide)] at H
       simp only [Option.some.injEq, Prod.mk.injEq] at H
       obtain ⟨rfl, rfl, rfl, rfl, rfl, rfl, rfl, rfl, rfl, rfl, rfl⟩ := H
       go_enter Tryd.func75, Tryd.ntmps75
       go_wp2_with (first | ((with_reducible refine gate_st (ty := 64) rfl ?_); refine storeC10 rfl rfl rfl rfl rfl qot3 qr2c qg3m rfl ?_) | ((with_reducible refine gate_ld (ty := 64) rfl ?_); (try (with_reducible refine gate_gd rfl ?_; refine gate_guard q8ju ?_; dsimp only)); refine load_st rfl rfl rfl qot3 qr2c Tryd.underlying64 rfl qg3m ?_; (try simp only [Act.put, List.setIfInBounds_toArray, List.set_cons_zero, List.set_cons_succ])) | ((with_reducible refine gate_dst (N := 2) rfl ?_); refine box_event qgcr (N := 2) qgcr (cs := #[.int .i64 0, .int .i64 0, .bool false, .bool false, .int .i64 0, .int .i64 0, .int .i64 0, .int .u32 0, .int .u32 0, .string (⟨#[]⟩ : ByteArray)]) (t := 64) qlto ?_; intro gb128 hg w59 hbox hb; have BK128 := Aside0.mk (hbox); have GE128 := Aside0.mk ((qisx : w.heap.size ≤ gb128)); replace HB := Aside0.mk (below_step qpag hb); clear hb hbox hg; have p6 : 0 ≤ (0 : Int) := q1jy; have q6 : 0 < a0.size := q1al; have hx6 : ∀ h : 0 < a0.size, ((a0[0]'h).toNat : Int) = bt a0 0 := bt_at a0 0; clear p6; have qi6 : (0 < (a0.size : Int)) = True := eq_true (of_decide_eq_true qlss); replace q6 := eq_true q6) | ((with_reducible refine gate_dst (N := 28) rfl ?_); refine Kd.R_lit Kd.string _ 9 ?hg (N := 28) ?hd (xs := ([a0.extract 0 20] : List ByteArray)) (inner := [.string (a0.extract 0 20)]) (ok := fun _ => True) (okp := fun _ => True) ?hr ?hp (fun _ hk => hk) trivial (Below.refl _ _) (Nat.le_refl _) q6hr ?_; (case hd => rfl); (case hg => rfl); (case hr => first | (go_simp; done) | (go_simp; rfl)); (case hp => exact (Reps.one (show Kd.M Kd.string _ _ _ (a0.extract 0 20) [.string (a0.extract 0 20)] from rfl) (Reps.none _ _))); intro v130 w60 ho61 hb hg_ hnew_; clear hg_ hnew_; (first | rw [← Ny129.out] at ho61 | (simp only [Int.reduceToNat] at ho61; rw [← Ny129.out] at ho61)); have HO131 := Aside0.mk (Kd.R_lower ho61 (below_size q542)); replace BK128 := Aside0.mk (blk_below (g := gb128) q0jj hb); replace HB := Aside0.mk (below_step q542 hb); obtain ⟨hcy1_128_0, hcy1_128_1, hcy1_128_2, hcy1_128_3, hcy1_128_4, hcy1_128_5, hcy1_128_6, hcy1_128_7, hcy1_128_8, hcy1_128_9⟩ := cells10 BK128.out; clear hb ho61; obtain ⟨Ao62, co62, eo62⟩ := Kd.R_slice HO131.out; subst eo62) | ((with_reducible refine gate_callee (f := 80) rfl ?_); refine goesL_ (some 29) rfl rfl Tryd.func80 qg3m rfl #[.slice Ao62 y129.length co62] rfl qraq ?_; (with_reducible refine (csum_Right.calls k _ _ y129 false _ ?side1 ?side2 A10.out).mono ?_); (case side1 => repeat (first | exact (Kd.R_reads' HO131.out).2.2 | (with_reducible refine Kd.C_alloc ?_ _) | (with_reducible refine Kd.C_drewN ?_ _) | (with_reducible refine Kd.C_drew ?_))); (case side2 => exact (Kd.R_reads' HO131.out).2.1); rintro e w63 ⟨rfl, hb⟩; refine ⟨_, rfl, ?_⟩; replace HO131 := Aside0.mk (Kd.R_below (by (with_reducible repeat (first | apply Kd.R_alloc | apply Kd.R_drewN | apply Kd.R_drew)); exact HO131.out) hb); replace BK128 := Aside0.mk (blk_below (g := gb128) q0jj hb); replace HB := Aside0.mk (below_step q542 hb); (try clear hb); (try clear hb2); (try clear hk); (try clear hi); obtain ⟨hcz64_0, hcz64_1, hcz64_2, hcz64_3, hcz64_4, hcz64_5, hcz64_6, hcz64_7, hcz64_8, hcz64_9⟩ := cells10 BK128.out; obtain ⟨hfz64_0, hfz64_1, hfz64_2, hfz64_3, hfz64_4, hfz64_5, hfz64_6, hfz64_7, hfz64_8, hfz64_9⟩ := frozen10 BK128.out))
       refine bodyPost_ret (results_ct rfl _ _ gb128 64 #[.int .i64 0, .int .i64 0, .bool false, .bool false, .int .i64 0, .int .i64 0, .int .i64 0, .int .u32 0, .int .u32 0, .string (⟨#[]⟩ : ByteArray)] (0, 0) _ rfl q8x1 Tryd.underlying64 rfl qg3m) rfl ?_
       exact ⟨qxu5, q542⟩
     ·rw [if_neg c9] at H
      exact absurd H q6hr
    ·rw [if_neg c8] at H
     exact absurd H q6hr
   ·rw [if_neg c7] at H
    have c7b0 : ((bt a0 0) == 69) = false := beq_eq_false_iff_ne.mpr c7
    have c7b1 : ((bt a0 0) != 69) = true := bne_iff_ne.mpr c7
    simp only [Option.some.injEq, Prod.mk.injEq] at H
    obtain ⟨rfl, rfl, rfl, rfl, rfl, rfl, rfl, rfl, rfl, rfl, rfl⟩ := H
    go_enter Tryd.func75, Tryd.ntmps75
    go_wp2_with (first | ((with_reducible refine gate_st (ty := 64) rfl ?_); refine storeC10 rfl rfl rfl rfl rfl qot3 qr2c qg3m rfl ?_) | ((with_reducible refine gate_ld (ty := 64) rfl ?_); (try (with_reducible refine gate_gd rfl ?_; refine gate_guard q8ju ?_; dsimp only)); refine load_st rfl rfl rfl qot3 qr2c Tryd.underlying64 rfl qg3m ?_; (try simp only [Act.put, List.setIfInBounds_toArray, List.set_cons_zero, List.set_cons_succ])) | ((with_reducible refine gate_dst (N := 2) rfl ?_); refine box_event qgcr (N := 2) qgcr (cs := #[.int .i64 0, .int .i64 0, .bool false, .bool false, .int .i64 0, .int .i64 0, .int .i64 0, .int .u32 0, .int .u32 0, .string (⟨#[]⟩ : ByteArray)]) (t := 64) qlto ?_; intro gb128 hg w65 hbox hb; have BK128 := Aside0.mk (hbox); have GE128 := Aside0.mk ((qisx : w.heap.size ≤ gb128)); replace HB := Aside0.mk (below_step qpag hb); clear hb hbox hg; have p6 : 0 ≤ (0 : Int) := q1jy; have q6 : 0 < a0.size := q1al; have hx6 : ∀ h : 0 < a0.size, ((a0[0]'h).toNat : Int) = bt a0 0 := bt_at a0 0; clear p6; have qi6 : (0 < (a0.size : Int)) = True := eq_true (of_decide_eq_true qlss); replace q6 := eq_true q6; obtain ⟨hcz66_0, hcz66_1, hcz66_2, hcz66_3, hcz66_4, hcz66_5, hcz66_6, hcz66_7, hcz66_8, hcz66_9⟩ := cells10 BK128.out; obtain ⟨hfz66_0, hfz66_1, hfz66_2, hfz66_3, hfz66_4, hfz66_5, hfz66_6, hfz66_7, hfz66_8, hfz66_9⟩ := frozen10 BK128.out))
    refine bodyPost_ret (results_ct rfl _ _ gb128 64 #[.int .i64 0, .int .i64 0, .bool false, .bool false, .int .i64 0, .int .i64 0, .int .i64 0, .int .u32 0, .int .u32 0, .string (⟨#[]⟩ : ByteArray)] (0, 0) _ rfl q8x1 Tryd.underlying64 rfl qg3m) rfl ?_
    exact ⟨qxu5, q542⟩
  ·rw [if_neg c5] at H
   exact absurd H q6hr
end Go.Proofs.YtbkgaplldfilnaaDoor.P
