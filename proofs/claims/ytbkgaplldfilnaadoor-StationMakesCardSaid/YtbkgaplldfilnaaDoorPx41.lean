-- slim
-- Written by wip/hprint.py (this session's program) through the kit's print program; hand contracts are marked 'by hand'.
import Derived.Test.YtbkgaplldfilnaaDoorAbb
import Derived.Test.YtbkgaplldfilnaaDoorRow
import Derived.Test.YtbkgaplldfilnaaDoorPx0
import Derived.Test.YtbkgaplldfilnaaDoorPx35
namespace Go.Proofs.YtbkgaplldfilnaaDoor.P
open Go.RowKit Go.Proofs.YtbkgaplldfilnaaDoorW.PrintWords Go.Proofs.YtbkgaplldfilnaaDoorW.PrintLast Go.Proofs.YtbkgaplldfilnaaDoorW.PrintMore
attribute [local go_sem] max2_int min2_int max_two min_two max_three min_three max_four min_four   -- for this text's walks alone
set_option linter.unusedVariables false
set_option linter.unusedSimpArgs false

theorem qiqw {p : Prop} (h : p := by (with_reducible repeat (first | refine blk_drewN ?_ _ | refine blk_drew ?_ | refine blk_alloc ?_ _)); exact BK592.out) : p := h
theorem q0iz {p : Prop} (h : p := by repeat (first | (with_reducible first | exact HB.out | apply below_alloc | apply pw_below_drewN | apply below_drew1 | refine below_set ?_ GE592.out) | exact HB.out)) : p := h
theorem qqr8 {p : Prop} (h : p := by with_reducible repeat (first | (apply blk_far; case hp => assumption) | apply blk_set | refine blk_drewN ?_ _ | refine blk_drew ?_ | refine blk_alloc ?_ _ | exact BK592.out)) : p := h
theorem qk3g {p : Prop} (h : p := by exact ⟨(blk_cell BK592.out 0).trans rfl, (blk_cell BK592.out 1).trans rfl, (blk_cell BK592.out 2).trans rfl, (blk_cell BK592.out 3).trans rfl, (blk_cell BK592.out 4).trans rfl, (blk_cell BK592.out 5).trans rfl, (blk_cell BK592.out 6).trans rfl, (blk_cell BK592.out 7).trans rfl, (blk_cell BK592.out 8).trans rfl, (blk_cell BK592.out 9).trans rfl⟩) : p := h
/-! ### gangwayref06_Head: function 53 -/
mutual
def gangwayref06_Head.j0 : Nat → Int → Int → Int → Int → Bool → Bool → Int → Int → Int → Int → Int → ByteArray → Option (ByteArray)
 | 0, _, _, _, _, _, _, _, _, _, _, _, _ => none
 | k + 1, x1, x5, x593000, x593001, x593002, x593003, x593004, x593005, x593006, x593007, x593008, x593009 => if x593003 = true then (gangwayref06_Head.j1 k x1 (wrap64 (x5 + 8192)) x593000 x593001 x593002 x593003 x593004 x593005 x593006 x593007 x593008 x593009) else (gangwayref06_Head.j1 k x1 x5 x593000 x593001 x593002 x593003 x593004 x593005 x593006 x593007 x593008 x593009)
def gangwayref06_Head.j1 : Nat → Int → Int → Int → Int → Bool → Bool → Int → Int → Int → Int → Int → ByteArray → Option (ByteArray)
 | 0, _, _, _, _, _, _, _, _, _, _, _, _ => none
 | k + 1, x1, x5, x593000, x593001, x593002, x593003, x593004, x593005, x593006, x593007, x593008, x593009 => (gangwayref01_Bytes.f k (IntKind.u64.wrap (x593000)) 1).bind fun t593 => (if 1 + t593.size ≤ 9223372036854775807 then ((gangwayref01_Bytes.f k (IntKind.u64.wrap (wrap64 (20 + (x593009.size : Int)))) 2).bind fun t594 => (if ((⟨#[69]⟩ : ByteArray) ++ t593).size + t594.size ≤ 9223372036854775807 then ((gangwayref01_Bytes.f k (IntKind.u64.wrap (x593001)) 2).bind fun t595 => (if (((⟨#[69]⟩ : ByteArray) ++ t593) ++ t594).size + t595.size ≤ 9223372036854775807 then ((gangwayref01_Bytes.f k (IntKind.u64.wrap (x5)) 2).bind fun t596 => (if ((((⟨#[69]⟩ : ByteArray) ++ t593) ++ t594) ++ t595).size + t596.size ≤ 9223372036854775807 then ((gangwayref01_Bytes.f k (IntKind.u64.wrap (x593005)) 1).bind fun t597 => (if (((((⟨#[69]⟩ : ByteArray) ++ t593) ++ t594) ++ t595) ++ t596).size + t597.size ≤ 9223372036854775807 then ((gangwayref01_Bytes.f k (IntKind.u64.wrap (x593006)) 1).bind fun t598 => (if ((((((⟨#[69]⟩ : ByteArray) ++ t593) ++ t594) ++ t595) ++ t596) ++ t597).size + t598.size ≤ 9223372036854775807 then ((gangwayref01_Bytes.f k (IntKind.u64.wrap (x1)) 2).bind fun t599 => (if (((((((⟨#[69]⟩ : ByteArray) ++ t593) ++ t594) ++ t595) ++ t596) ++ t597) ++ t598).size + t599.size ≤ 9223372036854775807 then ((gangwayref01_Bytes.f k (IntKind.u64.wrap (x593007)) 4).bind fun t600 => (if ((((((((⟨#[69]⟩ : ByteArray) ++ t593) ++ t594) ++ t595) ++ t596) ++ t597) ++ t598) ++ t599).size + t600.size ≤ 9223372036854775807 then ((gangwayref01_Bytes.f k (IntKind.u64.wrap (x593008)) 4).bind fun t601 => (if (((((((((⟨#[69]⟩ : ByteArray) ++ t593) ++ t594) ++ t595) ++ t596) ++ t597) ++ t598) ++ t599) ++ t600).size + t601.size ≤ 9223372036854775807 then (some ((((((((((⟨#[69]⟩ : ByteArray) ++ t593) ++ t594) ++ t595) ++ t596) ++ t597) ++ t598) ++ t599) ++ t600) ++ t601)) else (none))) else (none))) else (none))) else (none))) else (none))) else (none))) else (none))) else (none))) else (none))
end
def gangwayref06_Head.f (k : Nat) (a0_0 : Int) (a0_1 : Int) (a0_2 : Bool) (a0_3 : Bool) (a0_4 : Int) (a0_5 : Int) (a0_6 : Int) (a0_7 : Int) (a0_8 : Int) (a0_9 : ByteArray) (a1 : Int) : Option (ByteArray) := if a0_2 = true then (gangwayref06_Head.j0 k a1 (wrap64 (a0_4 + 16384)) a0_0 a0_1 a0_2 a0_3 a0_4 a0_5 a0_6 a0_7 a0_8 a0_9) else (gangwayref06_Head.j0 k a1 a0_4 a0_0 a0_1 a0_2 a0_3 a0_4 a0_5 a0_6 a0_7 a0_8 a0_9)
theorem gangwayref06_Head.mono_l : ∀ k, (∀ y0 y1 y2 y3 y4 y5 y6 y7 y8 y9 y10 y11, LeO (gangwayref06_Head.j0 k y0 y1 y2 y3 y4 y5 y6 y7 y8 y9 y10 y11) (gangwayref06_Head.j0 (k + 1) y0 y1 y2 y3 y4 y5 y6 y7 y8 y9 y10 y11)) ∧ (∀ y0 y1 y2 y3 y4 y5 y6 y7 y8 y9 y10 y11, LeO (gangwayref06_Head.j1 k y0 y1 y2 y3 y4 y5 y6 y7 y8 y9 y10 y11) (gangwayref06_Head.j1 (k + 1) y0 y1 y2 y3 y4 y5 y6 y7 y8 y9 y10 y11))
 | 0 => ⟨fun _ _ _ _ _ _ _ _ _ _ _ _ r h => by simp [gangwayref06_Head.j0] at h, fun _ _ _ _ _ _ _ _ _ _ _ _ r h => by simp [gangwayref06_Head.j1] at h⟩
 | k + 1 => by
  obtain ⟨ih0, ih1⟩ := gangwayref06_Head.mono_l k
  refine ⟨?_, ?_⟩
  ·intro y0 y1 y2 y3 y4 y5 y6 y7 y8 y9 y10 y11
   unfold gangwayref06_Head.j0
   repeat' first
   | (with_reducible exact ih0 _ _ _ _ _ _ _ _ _ _ _ _)
   | (with_reducible exact ih1 _ _ _ _ _ _ _ _ _ _ _ _)
   | (with_reducible exact gangwayref01_Bytes.mono _ _ _)
   | (with_reducible exact LeO.refl _)
   | (with_reducible exact LeO.none _)
   | (with_reducible refine LeO.ite ?_ ?_)
   | (with_reducible refine LeO.bind ?_ (fun _ => ?_))
   | exact ih0 _ _ _ _ _ _ _ _ _ _ _ _
   | exact ih1 _ _ _ _ _ _ _ _ _ _ _ _
   | exact gangwayref01_Bytes.mono _ _ _
   | exact LeO.none _
   | refine LeO.ite ?_ ?_
   | refine LeO.bind ?_ (fun _ => ?_)
  ·intro y0 y1 y2 y3 y4 y5 y6 y7 y8 y9 y10 y11
   unfold gangwayref06_Head.j1
   repeat' first
   | (with_reducible exact ih0 _ _ _ _ _ _ _ _ _ _ _ _)
   | (with_reducible exact ih1 _ _ _ _ _ _ _ _ _ _ _ _)
   | (with_reducible exact gangwayref01_Bytes.mono _ _ _)
   | (with_reducible exact LeO.refl _)
   | (with_reducible exact LeO.none _)
   | (with_reducible refine LeO.ite ?_ ?_)
   | (with_reducible refine LeO.bind ?_ (fun _ => ?_))
   | exact ih0 _ _ _ _ _ _ _ _ _ _ _ _
   | exact ih1 _ _ _ _ _ _ _ _ _ _ _ _
   | exact gangwayref01_Bytes.mono _ _ _
   | exact LeO.none _
   | refine LeO.ite ?_ ?_
   | refine LeO.bind ?_ (fun _ => ?_)
theorem gangwayref06_Head.mono : ∀ a0 a1 a2 a3 a4 a5 a6 a7 a8 a9 a10 k, LeO (gangwayref06_Head.f k a0 a1 a2 a3 a4 a5 a6 a7 a8 a9 a10) (gangwayref06_Head.f (k + 1) a0 a1 a2 a3 a4 a5 a6 a7 a8 a9 a10) := by
 intro a0 a1 a2 a3 a4 a5 a6 a7 a8 a9 a10 k
 obtain ⟨ih0, ih1⟩ := gangwayref06_Head.mono_l k
 unfold gangwayref06_Head.f
 repeat' first
   | (with_reducible exact ih0 _ _ _ _ _ _ _ _ _ _ _ _)
   | (with_reducible exact ih1 _ _ _ _ _ _ _ _ _ _ _ _)
   | (with_reducible exact gangwayref01_Bytes.mono _ _ _)
   | (with_reducible exact LeO.refl _)
   | (with_reducible exact LeO.none _)
   | (with_reducible refine LeO.ite ?_ ?_)
   | (with_reducible refine LeO.bind ?_ (fun _ => ?_))
   | exact ih0 _ _ _ _ _ _ _ _ _ _ _ _
   | exact ih1 _ _ _ _ _ _ _ _ _ _ _ _
   | exact gangwayref01_Bytes.mono _ _ _
   | exact LeO.none _
   | refine LeO.ite ?_ ?_
   | refine LeO.bind ?_ (fun _ => ?_)
def gangwayref06_Head.T6 : Bool × List (List Nat × List Nat) := (true, [([], []), ([0], [0]), ([1], [1]), ([2], [2]), ([3], [3]), ([], []), ([5], [5]), ([6], [6]), ([7], [7]), ([8], [8]), ([9, 3], [9]), ([4, 10], [4, 10]), ([], []), ([12], [12]), ([13], [13]), ([14, 10], [14]), ([11, 15], [11, 15]), ([], []), ([17], [17]), ([18, 15], [18]), ([16, 19], [16, 19]), ([], []), ([21], [21]), ([22], [22]), ([23, 19], [23]), ([20, 24], [20, 24]), ([], []), ([26], [26]), ([27], [27]), ([28, 24], [28]), ([25, 29], [25, 29]), ([], []), ([31], [31]), ([32, 29], [32]), ([30, 33], [30, 33]), ([], []), ([35], [35]), ([36], [36]), ([37, 33], [37]), ([34, 38], [34, 38]), ([], []), ([40], [40]), ([41], [41]), ([42, 38], [42]), ([39, 43], [39, 43]), ([44, 43, 0, 1, 2, 3, 4, 5, 6, 7, 8, 9, 10, 11, 12, 13, 14, 15, 16, 17, 18, 19, 20, 21, 22, 23, 24, 25, 26, 27, 28, 29, 30, 31, 32, 33, 34, 35, 36, 37, 38, 39, 40, 41, 42, 43, 44], [44])])
def gangwayref06_Head.B6 : List Nat := [0, 1, 3, 7, 15, 0, 32, 96, 224, 480, 1007, 2047, 0, 4096, 12288, 30703, 65535, 0, 131072, 456687, 1048575, 0, 2097152, 6291456, 15661039, 33554431, 0, 67108864, 201326592, 502200303, 1073741823, 0, 2147483648, 7481522159, 17179869183, 0, 34359738368, 103079215104, 256589625327, 549755813887, 0, 1099511627776, 3298534883328, 8228048926703, 17592186044415, 35184372088831]
theorem gangwayref06_Head.tab6 : rtab .any (opsOf Tryd.f53 6) = gangwayref06_Head.T6 := by kernel_rfl
theorem gangwayref06_Head.bits6 : waitsOk gangwayref06_Head.T6.2 gangwayref06_Head.B6 = true := by kernel_rfl
set_option maxHeartbeats 8000000 in
set_option maxRecDepth 100000 in
theorem gangwayref06_Head.calls (k : Nat) (a0_0 : Int) (a0_1 : Int) (a0_2 : Bool) (a0_3 : Bool) (a0_4 : Int) (a0_5 : Int) (a0_6 : Int) (a0_7 : Int) (a0_8 : Int) (a0_9 : ByteArray) (a1 : Int) (r : ByteArray) (w : World) (h : gangwayref06_Head.f k a0_0 a0_1 a0_2 a0_3 a0_4 a0_5 a0_6 a0_7 a0_8 a0_9 a1 = some r) :
  Calls Tryd.prog 53 #[.agg #[.int .i64 a0_0, .int .i64 a0_1, .bool a0_2, .bool a0_3, .int .i64 a0_4, .int .i64 a0_5, .int .i64 a0_6, .int .u32 a0_7, .int .u32 a0_8, .string a0_9], .int .i64 a1] w fun e w' => e = .returned (.string r) ∧ Below w.heap.size w w' := by
 have hu64 := Tryd.underlying64
 have HB := Aside0.mk (Below.refl w.heap.size w)
 have H := h
 unfold gangwayref06_Head.f at H
 clear h
 have HC3 := Aside0.mk H
 clear H
 go_enter Tryd.func53, Tryd.ntmps53
 go_upto_if 9 with (first | ((with_reducible refine gate_st (ty := 64) rfl ?_); refine storeC10 rfl rfl rfl rfl rfl qqr8 qr2c qg3m rfl ?_) | ((with_reducible refine gate_ld (ty := 64) rfl ?_); (try (with_reducible refine gate_gd rfl ?_; refine gate_guard q8ju ?_; dsimp only)); refine load_st rfl rfl rfl qqr8 qr2c Tryd.underlying64 rfl qg3m ?_; (try simp only [Act.put, List.setIfInBounds_toArray, List.set_cons_zero, List.set_cons_succ])) | ((with_reducible refine gate_dst (N := 2) rfl ?_); refine box_event qgcr (N := 2) qgcr (cs := #[.int .i64 a0_0, .int .i64 a0_1, .bool a0_2, .bool a0_3, .int .i64 a0_4, .int .i64 a0_5, .int .i64 a0_6, .int .u32 a0_7, .int .u32 a0_8, .string a0_9]) (t := 64) qlto ?_; intro gb592 hg w4 hbox hb; have BK592 := Aside0.mk (hbox); have GE592 := Aside0.mk ((qisx : w.heap.size ≤ gb592)); replace HB := Aside0.mk (below_step qpag hb); clear hb hbox hg; obtain ⟨hcz5_0, hcz5_1, hcz5_2, hcz5_3, hcz5_4, hcz5_5, hcz5_6, hcz5_7, hcz5_8, hcz5_9⟩ := cells10 BK592.out; obtain ⟨hfz5_0, hfz5_1, hfz5_2, hfz5_3, hfz5_4, hfz5_5, hfz5_6, hfz5_7, hfz5_8, hfz5_9⟩ := frozen10 BK592.out))
 (try simp only [Act.put, List.setIfInBounds_toArray, List.set_cons_zero, List.set_cons_succ])
 go_cut [5] (fun v5 wc => ∃ (kq : Nat) (x5_2 : Int), v5 = .int .i64 x5_2 ∧ Aside0 (gangwayref06_Head.j0 kq a1 x5_2 a0_0 a0_1 a0_2 a0_3 a0_4 a0_5 a0_6 a0_7 a0_8 a0_9 = some r) ∧ Aside0 (kq ≤ k) ∧ Aside0 (wc.heap[gb592]? = some (.cells #[.int .i64 a0_0, .int .i64 a0_1, .bool a0_2, .bool a0_3, .int .i64 a0_4, .int .i64 a0_5, .int .i64 a0_6, .int .u32 a0_7, .int .u32 a0_8, .string a0_9] 64 (0, 0))) ∧ Aside0 (Below w.heap.size w wc))
 case first =>
  have H := HC3.out
  clear HC3
  by_cases c6 : a0_2 = true
  ·subst c6
   rw [if_pos rfl] at H
   have H' := Aside0.mk H
   clear H
   go_wp2_with (first | ((with_reducible refine gate_st (ty := 64) rfl ?_); refine storeC10 rfl rfl rfl rfl rfl qqr8 qr2c qg3m rfl ?_) | ((with_reducible refine gate_ld (ty := 64) rfl ?_); (try (with_reducible refine gate_gd rfl ?_; refine gate_guard q8ju ?_; dsimp only)); refine load_st rfl rfl rfl qqr8 qr2c Tryd.underlying64 rfl qg3m ?_; (try simp only [Act.put, List.setIfInBounds_toArray, List.set_cons_zero, List.set_cons_succ])) | go_in)
   go_meet
   case rel => exact ⟨_, (wrap64 (a0_4 + 16384)), q8z4, H', ⟨qpfc⟩, ⟨qiqw⟩, ⟨q0iz⟩⟩
  ·replace c6 := Bool.eq_false_iff.mpr c6
   subst c6
   rw [if_neg (show ¬ (false = true) by decide)] at H
   have H' := Aside0.mk H
   clear H
   go_wp2_with (first | ((with_reducible refine gate_st (ty := 64) rfl ?_); refine storeC10 rfl rfl rfl rfl rfl qqr8 qr2c qg3m rfl ?_) | ((with_reducible refine gate_ld (ty := 64) rfl ?_); (try (with_reducible refine gate_gd rfl ?_; refine gate_guard q8ju ?_; dsimp only)); refine load_st rfl rfl rfl qqr8 qr2c Tryd.underlying64 rfl qg3m ?_; (try simp only [Act.put, List.setIfInBounds_toArray, List.set_cons_zero, List.set_cons_succ])) | go_in)
   go_meet
   case rel => exact ⟨_, (a0_4), q8z4, H', ⟨qpfc⟩, ⟨qiqw⟩, ⟨q0iz⟩⟩
 case rest =>
  clear HC3
  try clear p2
  try clear c5
  try clear c6
  try clear p6
  obtain ⟨kq, x5_2, rfl, HA, HJ2, BK592, HB⟩ := hcut
  cases kq with
  | zero => exact absurd HA.out (by simp [gangwayref06_Head.j0])
  | succ kj2 =>
   have H := HA.out
   clear HA
   simp only [gangwayref06_Head.j0] at H
   have HC7 := Aside0.mk H
   clear H
   obtain ⟨hcz8_0, hcz8_1, hcz8_2, hcz8_3, hcz8_4, hcz8_5, hcz8_6, hcz8_7, hcz8_8, hcz8_9⟩ := cells10 BK592.out
   obtain ⟨hfz8_0, hfz8_1, hfz8_2, hfz8_3, hfz8_4, hfz8_5, hfz8_6, hfz8_7, hfz8_8, hfz8_9⟩ := frozen10 BK592.out
   go_upto_if 13 with (fail)
   go_cut [5] (fun v5 wc => ∃ (kq : Nat) (x5_6 : Int), v5 = .int .i64 x5_6 ∧ Aside0 (gangwayref06_Head.j1 kq a1 x5_6 a0_0 a0_1 a0_2 a0_3 a0_4 a0_5 a0_6 a0_7 a0_8 a0_9 = some r) ∧ Aside0 (kq ≤ kj2) ∧ Aside0 (wc.heap[gb592]? = some (.cells #[.int .i64 a0_0, .int .i64 a0_1, .bool a0_2, .bool a0_3, .int .i64 a0_4, .int .i64 a0_5, .int .i64 a0_6, .int .u32 a0_7, .int .u32 a0_8, .string a0_9] 64 (0, 0))) ∧ Aside0 (Below w.heap.size w wc))
   case first =>
    have H := HC7.out
    clear HC7
    by_cases c9 : a0_3 = true
    ·subst c9
     rw [if_pos rfl] at H
     have H' := Aside0.mk H
     clear H
     go_wp2_with (first | ((with_reducible refine gate_st (ty := 64) rfl ?_); refine storeC10 rfl rfl rfl rfl rfl qqr8 qr2c qg3m rfl ?_) | ((with_reducible refine gate_ld (ty := 64) rfl ?_); (try (with_reducible refine gate_gd rfl ?_; refine gate_guard q8ju ?_; dsimp only)); refine load_st rfl rfl rfl qqr8 qr2c Tryd.underlying64 rfl qg3m ?_; (try simp only [Act.put, List.setIfInBounds_toArray, List.set_cons_zero, List.set_cons_succ])) | go_in)
     go_meet
     case rel => exact ⟨_, (wrap64 (x5_2 + 8192)), q8z4, H', ⟨(by have := HJ2.out; first | omega | exact Nat.le_refl _)⟩, ⟨qiqw⟩, ⟨q0iz⟩⟩
    ·replace c9 := Bool.eq_false_iff.mpr c9
     subst c9
     rw [if_neg (show ¬ (false = true) by decide)] at H
     have H' := Aside0.mk H
     clear H
     go_wp2_with (first | ((with_reducible refine gate_st (ty := 64) rfl ?_); refine storeC10 rfl rfl rfl rfl rfl qqr8 qr2c qg3m rfl ?_) | ((with_reducible refine gate_ld (ty := 64) rfl ?_); (try (with_reducible refine gate_gd rfl ?_; refine gate_guard q8ju ?_; dsimp only)); refine load_st rfl rfl rfl qqr8 qr2c Tryd.underlying64 rfl qg3m ?_; (try simp only [Act.put, List.setIfInBounds_toArray, List.set_cons_zero, List.set_cons_succ])) | go_in)
     go_meet
     case rel => exact ⟨_, (x5_2), q8z4, H', ⟨(by have := HJ2.out; first | omega | exact Nat.le_refl _)⟩, ⟨qiqw⟩, ⟨q0iz⟩⟩
   case rest =>
    clear HC7
    try clear p2
    try clear c5
    try clear c6
    try clear p6
    try clear c9
    try clear p2
    try clear p6
    obtain ⟨kq, x5_6, rfl, HA, HJ6, BK592, HB⟩ := hcut
    cases kq with
    | zero => exact absurd HA.out (by simp [gangwayref06_Head.j1])
    | succ kj6 =>
     have H := HA.out
     clear HA
     simp only [gangwayref06_Head.j1] at H
     replace H := Option.bind_eq_some_iff.mp H
     obtain ⟨t593, A100, H⟩ := H
     try dsimp only at H
     have A10 := Aside0.mk A100
     clear A100
     by_cases c11 : 1 + t593.size ≤ 9223372036854775807
     ·rw [if_pos c11] at H
      have c11b0 := eq_true c11
      have c11b1 : decide (1 + t593.size ≤ 9223372036854775807) = true := decide_eq_true c11
      try have c11b2 : (9223372036854775807 < 1 + t593.size) = False := eq_false (Nat.not_lt.2 c11)
      replace H := Option.bind_eq_some_iff.mp H
      obtain ⟨t594, A120, H⟩ := H
      try dsimp only at H
      have A12 := Aside0.mk A120
      clear A120
      by_cases c13 : ((⟨#[69]⟩ : ByteArray) ++ t593).size + t594.size ≤ 9223372036854775807
      ·rw [if_pos c13] at H
       have c13b0 := eq_true c13
       have c13b1 : decide (((⟨#[69]⟩ : ByteArray) ++ t593).size + t594.size ≤ 9223372036854775807) = true := decide_eq_true c13
       have c13z := c13
       simp only [ByteArray.size_append] at c13z
       have c13z1 := eq_true c13z
       have c13z2 := eq_false (Nat.not_lt.2 c13z)
       try (have c13l := c13z; simp only [show (⟨#[69]⟩ : ByteArray).size = 1 from rfl, Nat.reduceAdd] at c13l; have c13l1 := eq_true c13l; have c13l2 := eq_false (Nat.not_lt.2 c13l))
       try have c13b2 : (9223372036854775807 < ((⟨#[69]⟩ : ByteArray) ++ t593).size + t594.size) = False := eq_false (Nat.not_lt.2 c13)
       replace H := Option.bind_eq_some_iff.mp H
       obtain ⟨t595, A140, H⟩ := H
       try dsimp only at H
       have A14 := Aside0.mk A140
       clear A140
       by_cases c15 : (((⟨#[69]⟩ : ByteArray) ++ t593) ++ t594).size + t595.size ≤ 9223372036854775807
       ·rw [if_pos c15] at H
        have c15b0 := eq_true c15
        have c15b1 : decide ((((⟨#[69]⟩ : ByteArray) ++ t593) ++ t594).size + t595.size ≤ 9223372036854775807) = true := decide_eq_true c15
        have c15z := c15
        simp only [ByteArray.size_append] at c15z
        have c15z1 := eq_true c15z
        have c15z2 := eq_false (Nat.not_lt.2 c15z)
        try (have c15l := c15z; simp only [show (⟨#[69]⟩ : ByteArray).size = 1 from rfl, Nat.reduceAdd] at c15l; have c15l1 := eq_true c15l; have c15l2 := eq_false (Nat.not_lt.2 c15l))
        try have c15b2 : (9223372036854775807 < (((⟨#[69]⟩ : ByteArray) ++ t593) ++ t594).size + t595.size) = False := eq_false (Nat.not_lt.2 c15)
        replace H := Option.bind_eq_some_iff.mp H
        obtain ⟨t596, A160, H⟩ := H
        try dsimp only at H
        have A16 := Aside0.mk A160
        clear A160
        by_cases c17 : ((((⟨#[69]⟩ : ByteArray) ++ t593) ++ t594) ++ t595).size + t596.size ≤ 9223372036854775807
        ·rw [if_pos c17] at H
         have c17b0 := eq_true c17
         have c17b1 : decide (((((⟨#[69]⟩ : ByteArray) ++ t593) ++ t594) ++ t595).size + t596.size ≤ 9223372036854775807) = true := decide_eq_true c17
         have c17z := c17
         simp only [ByteArray.size_append] at c17z
         have c17z1 := eq_true c17z
         have c17z2 := eq_false (Nat.not_lt.2 c17z)
         try (have c17l := c17z; simp only [show (⟨#[69]⟩ : ByteArray).size = 1 from rfl, Nat.reduceAdd] at c17l; have c17l1 := eq_true c17l; have c17l2 := eq_false (Nat.not_lt.2 c17l))
         try have c17b2 : (9223372036854775807 < ((((⟨#[69]⟩ : ByteArray) ++ t593) ++ t594) ++ t595).size + t596.size) = False := eq_false (Nat.not_lt.2 c17)
         replace H := Option.bind_eq_some_iff.mp H
         obtain ⟨t597, A180, H⟩ := H
         try dsimp only at H
         have A18 := Aside0.mk A180
         clear A180
         by_cases c19 : (((((⟨#[69]⟩ : ByteArray) ++ t593) ++ t594) ++ t595) ++ t596).size + t597.size ≤ 9223372036854775807
         ·rw [if_pos c19] at H
          have c19b0 := eq_true c19
          have c19b1 : decide ((((((⟨#[69]⟩ : ByteArray) ++ t593) ++ t594) ++ t595) ++ t596).size + t597.size ≤ 9223372036854775807) = true := decide_eq_true c19
          have c19z := c19
          simp only [ByteArray.size_append] at c19z
          have c19z1 := eq_true c19z
          have c19z2 := eq_false (Nat.not_lt.2 c19z)
          try (have c19l := c19z; simp only [show (⟨#[69]⟩ : ByteArray).size = 1 from rfl, Nat.reduceAdd] at c19l; have c19l1 := eq_true c19l; have c19l2 := eq_false (Nat.not_lt.2 c19l))
          try have c19b2 : (9223372036854775807 < (((((⟨#[69]⟩ : ByteArray) ++ t593) ++ t594) ++ t595) ++ t596).size + t597.size) = False := eq_false (Nat.not_lt.2 c19)
          replace H := Option.bind_eq_some_iff.mp H
          obtain ⟨t598, A200, H⟩ := H
          try dsimp only at H
          have A20 := Aside0.mk A200
          clear A200
          by_cases c21 : ((((((⟨#[69]⟩ : ByteArray) ++ t593) ++ t594) ++ t595) ++ t596) ++ t597).size + t598.size ≤ 9223372036854775807
          ·rw [if_pos c21] at H
           have c21b0 := eq_true c21
           have c21b1 : decide (((((((⟨#[69]⟩ : ByteArray) ++ t593) ++ t594) ++ t595) ++ t596) ++ t597).size + t598.size ≤ 9223372036854775807) = true := decide_eq_true c21
           have c21z := c21
           simp only [ByteArray.size_append] at c21z
           have c21z1 := eq_true c21z
           have c21z2 := eq_false (Nat.not_lt.2 c21z)
           try (have c21l := c21z; simp only [show (⟨#[69]⟩ : ByteArray).size = 1 from rfl, Nat.reduceAdd] at c21l; have c21l1 := eq_true c21l; have c21l2 := eq_false (Nat.not_lt.2 c21l))
           try have c21b2 : (9223372036854775807 < ((((((⟨#[69]⟩ : ByteArray) ++ t593) ++ t594) ++ t595) ++ t596) ++ t597).size + t598.size) = False := eq_false (Nat.not_lt.2 c21)
           replace H := Option.bind_eq_some_iff.mp H
           obtain ⟨t599, A220, H⟩ := H
           try dsimp only at H
           have A22 := Aside0.mk A220
           clear A220
           by_cases c23 : (((((((⟨#[69]⟩ : ByteArray) ++ t593) ++ t594) ++ t595) ++ t596) ++ t597) ++ t598).size + t599.size ≤ 9223372036854775807
           ·rw [if_pos c23] at H
            have c23b0 := eq_true c23
            have c23b1 : decide ((((((((⟨#[69]⟩ : ByteArray) ++ t593) ++ t594) ++ t595) ++ t596) ++ t597) ++ t598).size + t599.size ≤ 9223372036854775807) = true := decide_eq_true c23
            have c23z := c23
            simp only [ByteArray.size_append] at c23z
            have c23z1 := eq_true c23z
            have c23z2 := eq_false (Nat.not_lt.2 c23z)
            try (have c23l := c23z; simp only [show (⟨#[69]⟩ : ByteArray).size = 1 from rfl, Nat.reduceAdd] at c23l; have c23l1 := eq_true c23l; have c23l2 := eq_false (Nat.not_lt.2 c23l))
            try have c23b2 : (9223372036854775807 < (((((((⟨#[69]⟩ : ByteArray) ++ t593) ++ t594) ++ t595) ++ t596) ++ t597) ++ t598).size + t599.size) = False := eq_false (Nat.not_lt.2 c23)
            replace H := Option.bind_eq_some_iff.mp H
            obtain ⟨t600, A240, H⟩ := H
            try dsimp only at H
            have A24 := Aside0.mk A240
            clear A240
            by_cases c25 : ((((((((⟨#[69]⟩ : ByteArray) ++ t593) ++ t594) ++ t595) ++ t596) ++ t597) ++ t598) ++ t599).size + t600.size ≤ 9223372036854775807
            ·rw [if_pos c25] at H
             have c25b0 := eq_true c25
             have c25b1 : decide (((((((((⟨#[69]⟩ : ByteArray) ++ t593) ++ t594) ++ t595) ++ t596) ++ t597) ++ t598) ++ t599).size + t600.size ≤ 9223372036854775807) = true := decide_eq_true c25
             have c25z := c25
             simp only [ByteArray.size_append] at c25z
             have c25z1 := eq_true c25z
             have c25z2 := eq_false (Nat.not_lt.2 c25z)
             try (have c25l := c25z; simp only [show (⟨#[69]⟩ : ByteArray).size = 1 from rfl, Nat.reduceAdd] at c25l; have c25l1 := eq_true c25l; have c25l2 := eq_false (Nat.not_lt.2 c25l))
             try have c25b2 : (9223372036854775807 < ((((((((⟨#[69]⟩ : ByteArray) ++ t593) ++ t594) ++ t595) ++ t596) ++ t597) ++ t598) ++ t599).size + t600.size) = False := eq_false (Nat.not_lt.2 c25)
             replace H := Option.bind_eq_some_iff.mp H
             obtain ⟨t601, A260, H⟩ := H
             try dsimp only at H
             have A26 := Aside0.mk A260
             clear A260
             by_cases c27 : (((((((((⟨#[69]⟩ : ByteArray) ++ t593) ++ t594) ++ t595) ++ t596) ++ t597) ++ t598) ++ t599) ++ t600).size + t601.size ≤ 9223372036854775807
             ·rw [if_pos c27] at H
              have c27b0 := eq_true c27
              have c27b1 : decide ((((((((((⟨#[69]⟩ : ByteArray) ++ t593) ++ t594) ++ t595) ++ t596) ++ t597) ++ t598) ++ t599) ++ t600).size + t601.size ≤ 9223372036854775807) = true := decide_eq_true c27
              have c27z := c27
              simp only [ByteArray.size_append] at c27z
              have c27z1 := eq_true c27z
              have c27z2 := eq_false (Nat.not_lt.2 c27z)
              try (have c27l := c27z; simp only [show (⟨#[69]⟩ : ByteArray).size = 1 from rfl, Nat.reduceAdd] at c27l; have c27l1 := eq_true c27l; have c27l2 := eq_false (Nat.not_lt.2 c27l))
              try have c27b2 : (9223372036854775807 < (((((((((⟨#[69]⟩ : ByteArray) ++ t593) ++ t594) ++ t595) ++ t596) ++ t597) ++ t598) ++ t599) ++ t600).size + t601.size) = False := eq_false (Nat.not_lt.2 c27)
              obtain rfl := Option.some.inj H
              try go_wp2_with (first | ((with_reducible refine gate_st (ty := 64) rfl ?_); refine storeC10 rfl rfl rfl rfl rfl qqr8 qr2c qg3m rfl ?_) | ((with_reducible refine gate_ld (ty := 64) rfl ?_); (try (with_reducible refine gate_gd rfl ?_; refine gate_guard q8ju ?_; dsimp only)); refine load_st rfl rfl rfl qqr8 qr2c Tryd.underlying64 rfl qg3m ?_; (try simp only [Act.put, List.setIfInBounds_toArray, List.set_cons_zero, List.set_cons_succ])) | go_in)
              replace BK592 := Aside0.mk (blk_drew BK592.out)
              replace HB := Aside0.mk (below_drew1 HB.out)
              refine start_ (n := 46) (S := fun w' => w'.cell? ⟨gb592, 0, none⟩ = some (.int .i64 a0_0) ∧ w'.cell? ⟨gb592, 1, none⟩ = some (.int .i64 a0_1) ∧ w'.cell? ⟨gb592, 2, none⟩ = some (.bool a0_2) ∧ w'.cell? ⟨gb592, 3, none⟩ = some (.bool a0_3) ∧ w'.cell? ⟨gb592, 4, none⟩ = some (.int .i64 a0_4) ∧ w'.cell? ⟨gb592, 5, none⟩ = some (.int .i64 a0_5) ∧ w'.cell? ⟨gb592, 6, none⟩ = some (.int .i64 a0_6) ∧ w'.cell? ⟨gb592, 7, none⟩ = some (.int .u32 a0_7) ∧ w'.cell? ⟨gb592, 8, none⟩ = some (.int .u32 a0_8) ∧ w'.cell? ⟨gb592, 9, none⟩ = some (.string a0_9)) (ds := []) (ba 46 0) qg3m rfl rfl ⟨(blk_cell BK592.out 0).trans rfl, (blk_cell BK592.out 1).trans rfl, (blk_cell BK592.out 2).trans rfl, (blk_cell BK592.out 3).trans rfl, (blk_cell BK592.out 4).trans rfl, (blk_cell BK592.out 5).trans rfl, (blk_cell BK592.out 6).trans rfl, (blk_cell BK592.out 7).trans rfl, (blk_cell BK592.out 8).trans rfl, (blk_cell BK592.out 9).trans rfl⟩ (fun hHeld => ?_); refine with_tabW gangwayref06_Head.tab6 gangwayref06_Head.bits6 (fun HT_ HW_ => ?_)
              generalize wc.drew = w28 at BK592 HB hHeld ⊢
              refine pu_c3d (i := 0) (N := some 16) (ba 46 1) ?_
              refine pu_c3d (i := 5) (N := some 21) (ba 46 33) ?_
              refine pu_c3d (i := 12) (N := some 28) (ba 46 4129) ?_
              refine pu_c3d (i := 17) (N := some 33) (ba 46 135201) ?_
              refine pu_c3d (i := 18) (N := some 34) (ba 46 397345) ?_
              refine pu_c3d (i := 21) (N := some 37) (ba 46 2494497) ?_
              refine pu_c3d (i := 26) (N := some 42) (ba 46 69603361) ?_
              refine pu_c3d (i := 31) (N := some 47) (ba 46 2217087009) ?_
              refine pu_c3d (i := 32) (N := some 48) (ba 46 6512054305) ?_
              refine pu_c3d (i := 35) (N := some 51) (ba 46 40871792673) ?_
              refine pu_c3d (i := 40) (N := some 56) (ba 46 1140383420449) ?_
              refine tk_d0b (i := 1) (N := some 17) (ba 46 1140383420451) hHeld ?_
              refine pu_c3d (i := 2) (N := some 18) (ba 46 1140383420455) ?_
              refine tk_d0b (i := 6) (N := some 22) (ba 46 1140383420519) hHeld ?_
              refine pu_c3d (i := 7) (N := some 23) (ba 46 1140383420647) ?_
              refine pu_c3d (i := 8) (N := some 24) (ba 46 1140383420903) ?_
              refine pu_c3d (i := 9) (N := some 25) (ba 46 1140383421415) ?_
              refine tk_d0b (i := 13) (N := some 29) (ba 46 1140383429607) hHeld ?_
              refine pu_c3d (i := 14) (N := some 30) (ba 46 1140383445991) ?_
              refine tk_d0b (i := 22) (N := some 38) (ba 46 1140387640295) hHeld ?_
              refine pu_c3d (i := 23) (N := some 39) (ba 46 1140396028903) ?_
              refine tk_d0b (i := 27) (N := some 43) (ba 46 1140530246631) hHeld ?_
              refine pu_c3d (i := 28) (N := some 44) (ba 46 1140798682087) ?_
              refine tk_d0b (i := 36) (N := some 52) (ba 46 1209518158823) hHeld ?_
              refine pu_c3d (i := 37) (N := some 53) (ba 46 1346957112295) ?_
              refine tk_d0b (i := 41) (N := some 57) (ba 46 3545980367847) hHeld ?_
              refine pu_c3d (i := 42) (N := some 58) (ba 46 7944026878951) ?_
              refine one_ (i := 3) (N := some 19) (ba 46 7944026878959) rfl rfl (one_of HT_.out qg3m) qomw (fun K hK => ?_)
              refine goes_ Tryd.func51 qg3m rfl #[.int .u64 (IntKind.u64.wrap (a0_0)), .int .i64 1] qlo1 rfl rfl qraq ?_
              with_reducible refine (gangwayref01_Bytes.calls kj6 (IntKind.u64.wrap (a0_0)) 1 t593 _ A10.out).mono ?_
              rintro e w29 ⟨rfl, hb⟩
              refine ⟨_, rfl, ?_⟩
              replace BK592 := Aside0.mk (blk_below (g := gb592) (o := .cells #[.int .i64 a0_0, .int .i64 a0_1, .bool a0_2, .bool a0_3, .int .i64 a0_4, .int .i64 a0_5, .int .i64 a0_6, .int .u32 a0_7, .int .u32 a0_8, .string a0_9] 64 (0, 0)) qiqw hb)
              replace HB := Aside0.mk (below_step q0iz hb)
              (try clear hb)
              (try clear hb2)
              (try clear hk)
              (try clear hi)
              refine hK.out _ _ qk3g (fun hHeld => ?_)
              clear hK K
              refine norm_ (a' := ?_) ?_ ?_
              rotate_left
              ·show Act.put _ (some 19) _ = _
               simp only [Act.put, List.setIfInBounds_toArray, List.set_cons_zero, List.set_cons_succ, i64_w, i32_w]
               rfl
              refine pu_c3d (i := 4) (N := some 20) (ba 46 7944026878975) ?_
              refine one_ (i := 10) (N := some 26) (ba 46 7944026879999) rfl rfl (one_of HT_.out qg3m) qomw (fun K hK => ?_)
              refine goes_ Tryd.func51 qg3m rfl #[.int .u64 (IntKind.u64.wrap (wrap64 (20 + (a0_9.size : Int)))), .int .i64 2] qlo1 rfl rfl qraq ?_
              with_reducible refine (gangwayref01_Bytes.calls kj6 (IntKind.u64.wrap (wrap64 (20 + (a0_9.size : Int)))) 2 t594 _ A12.out).mono ?_
              rintro e w30 ⟨rfl, hb⟩
              refine ⟨_, rfl, ?_⟩
              replace BK592 := Aside0.mk (blk_below (g := gb592) (o := .cells #[.int .i64 a0_0, .int .i64 a0_1, .bool a0_2, .bool a0_3, .int .i64 a0_4, .int .i64 a0_5, .int .i64 a0_6, .int .u32 a0_7, .int .u32 a0_8, .string a0_9] 64 (0, 0)) qiqw hb)
              replace HB := Aside0.mk (below_step q0iz hb)
              (try clear hb)
              (try clear hb2)
              (try clear hk)
              (try clear hi)
              refine hK.out _ _ qk3g (fun hHeld => ?_)
              clear hK K
              refine norm_ (a' := ?_) ?_ ?_
              rotate_left
              ·show Act.put _ (some 26) _ = _
               simp only [Act.put, List.setIfInBounds_toArray, List.set_cons_zero, List.set_cons_succ, i64_w, i32_w]
               rfl
              refine pu_c3d (i := 11) (N := some 27) (ba 46 7944026882047) ?_
              refine one_ (i := 15) (N := some 31) (ba 46 7944026914815) rfl rfl (one_of HT_.out qg3m) qomw (fun K hK => ?_)
              refine goes_ Tryd.func51 qg3m rfl #[.int .u64 (IntKind.u64.wrap (a0_1)), .int .i64 2] qlo1 rfl rfl qraq ?_
              with_reducible refine (gangwayref01_Bytes.calls kj6 (IntKind.u64.wrap (a0_1)) 2 t595 _ A14.out).mono ?_
              rintro e w31 ⟨rfl, hb⟩
              refine ⟨_, rfl, ?_⟩
              replace BK592 := Aside0.mk (blk_below (g := gb592) (o := .cells #[.int .i64 a0_0, .int .i64 a0_1, .bool a0_2, .bool a0_3, .int .i64 a0_4, .int .i64 a0_5, .int .i64 a0_6, .int .u32 a0_7, .int .u32 a0_8, .string a0_9] 64 (0, 0)) qiqw hb)
              replace HB := Aside0.mk (below_step q0iz hb)
              (try clear hb)
              (try clear hb2)
              (try clear hk)
              (try clear hi)
              refine hK.out _ _ qk3g (fun hHeld => ?_)
              clear hK K
              refine norm_ (a' := ?_) ?_ ?_
              rotate_left
              ·show Act.put _ (some 31) _ = _
               simp only [Act.put, List.setIfInBounds_toArray, List.set_cons_zero, List.set_cons_succ, i64_w, i32_w]
               rfl
              refine pu_c3d (i := 16) (N := some 32) (ba 46 7944026980351) ?_
              refine one_ (i := 19) (N := some 35) (ba 46 7944027504639) rfl rfl (one_of HT_.out qg3m) qomw (fun K hK => ?_)
              refine goes_ Tryd.func51 qg3m rfl #[.int .u64 (IntKind.u64.wrap (x5_6)), .int .i64 2] qlo1 rfl rfl qraq ?_
              with_reducible refine (gangwayref01_Bytes.calls kj6 (IntKind.u64.wrap (x5_6)) 2 t596 _ A16.out).mono ?_
              rintro e w32 ⟨rfl, hb⟩
              refine ⟨_, rfl, ?_⟩
              replace BK592 := Aside0.mk (blk_below (g := gb592) (o := .cells #[.int .i64 a0_0, .int .i64 a0_1, .bool a0_2, .bool a0_3, .int .i64 a0_4, .int .i64 a0_5, .int .i64 a0_6, .int .u32 a0_7, .int .u32 a0_8, .string a0_9] 64 (0, 0)) qiqw hb)
              replace HB := Aside0.mk (below_step q0iz hb)
              (try clear hb)
              (try clear hb2)
              (try clear hk)
              (try clear hi)
              refine hK.out _ _ qk3g (fun hHeld => ?_)
              clear hK K
              refine norm_ (a' := ?_) ?_ ?_
              rotate_left
              ·show Act.put _ (some 35) _ = _
               simp only [Act.put, List.setIfInBounds_toArray, List.set_cons_zero, List.set_cons_succ, i64_w, i32_w]
               rfl
              refine pu_c3d (i := 20) (N := some 36) (ba 46 7944028553215) ?_
              refine one_ (i := 24) (N := some 40) (ba 46 7944045330431) rfl rfl (one_of HT_.out qg3m) qomw (fun K hK => ?_)
              refine goes_ Tryd.func51 qg3m rfl #[.int .u64 (IntKind.u64.wrap (a0_5)), .int .i64 1] qlo1 rfl rfl qraq ?_
              with_reducible refine (gangwayref01_Bytes.calls kj6 (IntKind.u64.wrap (a0_5)) 1 t597 _ A18.out).mono ?_
              rintro e w33 ⟨rfl, hb⟩
              refine ⟨_, rfl, ?_⟩
              replace BK592 := Aside0.mk (blk_below (g := gb592) (o := .cells #[.int .i64 a0_0, .int .i64 a0_1, .bool a0_2, .bool a0_3, .int .i64 a0_4, .int .i64 a0_5, .int .i64 a0_6, .int .u32 a0_7, .int .u32 a0_8, .string a0_9] 64 (0, 0)) qiqw hb)
              replace HB := Aside0.mk (below_step q0iz hb)
              (try clear hb)
              (try clear hb2)
              (try clear hk)
              (try clear hi)
              refine hK.out _ _ qk3g (fun hHeld => ?_)
              clear hK K
              refine norm_ (a' := ?_) ?_ ?_
              rotate_left
              ·show Act.put _ (some 40) _ = _
               simp only [Act.put, List.setIfInBounds_toArray, List.set_cons_zero, List.set_cons_succ, i64_w, i32_w]
               rfl
              refine pu_c3d (i := 25) (N := some 41) (ba 46 7944078884863) ?_
              refine one_ (i := 29) (N := some 45) (ba 46 7944615755775) rfl rfl (one_of HT_.out qg3m) qomw (fun K hK => ?_)
              refine goes_ Tryd.func51 qg3m rfl #[.int .u64 (IntKind.u64.wrap (a0_6)), .int .i64 1] qlo1 rfl rfl qraq ?_
              with_reducible refine (gangwayref01_Bytes.calls kj6 (IntKind.u64.wrap (a0_6)) 1 t598 _ A20.out).mono ?_
              rintro e w34 ⟨rfl, hb⟩
              refine ⟨_, rfl, ?_⟩
              replace BK592 := Aside0.mk (blk_below (g := gb592) (o := .cells #[.int .i64 a0_0, .int .i64 a0_1, .bool a0_2, .bool a0_3, .int .i64 a0_4, .int .i64 a0_5, .int .i64 a0_6, .int .u32 a0_7, .int .u32 a0_8, .string a0_9] 64 (0, 0)) qiqw hb)
              replace HB := Aside0.mk (below_step q0iz hb)
              (try clear hb)
              (try clear hb2)
              (try clear hk)
              (try clear hi)
              refine hK.out _ _ qk3g (fun hHeld => ?_)
              clear hK K
              refine norm_ (a' := ?_) ?_ ?_
              rotate_left
              ·show Act.put _ (some 45) _ = _
               simp only [Act.put, List.setIfInBounds_toArray, List.set_cons_zero, List.set_cons_succ, i64_w, i32_w]
               rfl
              refine pu_c3d (i := 30) (N := some 46) (ba 46 7945689497599) ?_
              refine one_ (i := 33) (N := some 49) (ba 46 7954279432191) rfl rfl (one_of HT_.out qg3m) qomw (fun K hK => ?_)
              refine goes_ Tryd.func51 qg3m rfl #[.int .u64 (IntKind.u64.wrap (a1)), .int .i64 2] qlo1 rfl rfl qraq ?_
              with_reducible refine (gangwayref01_Bytes.calls kj6 (IntKind.u64.wrap (a1)) 2 t599 _ A22.out).mono ?_
              rintro e w35 ⟨rfl, hb⟩
              refine ⟨_, rfl, ?_⟩
              replace BK592 := Aside0.mk (blk_below (g := gb592) (o := .cells #[.int .i64 a0_0, .int .i64 a0_1, .bool a0_2, .bool a0_3, .int .i64 a0_4, .int .i64 a0_5, .int .i64 a0_6, .int .u32 a0_7, .int .u32 a0_8, .string a0_9] 64 (0, 0)) qiqw hb)
              replace HB := Aside0.mk (below_step q0iz hb)
              (try clear hb)
              (try clear hb2)
              (try clear hk)
              (try clear hi)
              refine hK.out _ _ qk3g (fun hHeld => ?_)
              clear hK K
              refine norm_ (a' := ?_) ?_ ?_
              rotate_left
              ·show Act.put _ (some 49) _ = _
               simp only [Act.put, List.setIfInBounds_toArray, List.set_cons_zero, List.set_cons_succ, i64_w, i32_w]
               rfl
              refine pu_c3d (i := 34) (N := some 50) (ba 46 7971459301375) ?_
              refine one_ (i := 38) (N := some 54) (ba 46 8246337208319) rfl rfl (one_of HT_.out qg3m) qomw (fun K hK => ?_)
              refine goes_ Tryd.func51 qg3m rfl #[.int .u64 (IntKind.u64.wrap (a0_7)), .int .i64 4] qlo1 rfl rfl qraq ?_
              with_reducible refine (gangwayref01_Bytes.calls kj6 (IntKind.u64.wrap (a0_7)) 4 t600 _ A24.out).mono ?_
              rintro e w36 ⟨rfl, hb⟩
              refine ⟨_, rfl, ?_⟩
              replace BK592 := Aside0.mk (blk_below (g := gb592) (o := .cells #[.int .i64 a0_0, .int .i64 a0_1, .bool a0_2, .bool a0_3, .int .i64 a0_4, .int .i64 a0_5, .int .i64 a0_6, .int .u32 a0_7, .int .u32 a0_8, .string a0_9] 64 (0, 0)) qiqw hb)
              replace HB := Aside0.mk (below_step q0iz hb)
              (try clear hb)
              (try clear hb2)
              (try clear hk)
              (try clear hi)
              refine hK.out _ _ qk3g (fun hHeld => ?_)
              clear hK K
              refine norm_ (a' := ?_) ?_ ?_
              rotate_left
              ·show Act.put _ (some 54) _ = _
               simp only [Act.put, List.setIfInBounds_toArray, List.set_cons_zero, List.set_cons_succ, i64_w, i32_w]
               rfl
              refine pu_c3d (i := 39) (N := some 55) (ba 46 8796093022207) ?_
              refine one_ (i := 43) (N := some 59) (ba 46 17592186044415) rfl rfl (one_of HT_.out qg3m) qomw (fun K hK => ?_)
              refine goes_ Tryd.func51 qg3m rfl #[.int .u64 (IntKind.u64.wrap (a0_8)), .int .i64 4] qlo1 rfl rfl qraq ?_
              with_reducible refine (gangwayref01_Bytes.calls kj6 (IntKind.u64.wrap (a0_8)) 4 t601 _ A26.out).mono ?_
              rintro e w37 ⟨rfl, hb⟩
              refine ⟨_, rfl, ?_⟩
              replace BK592 := Aside0.mk (blk_below (g := gb592) (o := .cells #[.int .i64 a0_0, .int .i64 a0_1, .bool a0_2, .bool a0_3, .int .i64 a0_4, .int .i64 a0_5, .int .i64 a0_6, .int .u32 a0_7, .int .u32 a0_8, .string a0_9] 64 (0, 0)) qiqw hb)
              replace HB := Aside0.mk (below_step q0iz hb)
              (try clear hb)
              (try clear hb2)
              (try clear hk)
              (try clear hi)
              refine hK.out _ _ qk3g (fun hHeld => ?_)
              clear hK K
              refine norm_ (a' := ?_) ?_ ?_
              rotate_left
              ·show Act.put _ (some 59) _ = _
               simp only [Act.put, List.setIfInBounds_toArray, List.set_cons_zero, List.set_cons_succ, i64_w, i32_w]
               rfl
              refine pu_c3d (i := 44) (N := some 60) (ba 46 35184372088831) ?_
              refine pu_c3d (i := 45) (N := some 4) (ba 46 70368744177663) ?_
              refine done_ (done_of HT_.out qg3m) ?_
              try go_wp2_with (first | ((with_reducible refine gate_st (ty := 64) rfl ?_); refine storeC10 rfl rfl rfl rfl rfl qqr8 qr2c qg3m rfl ?_) | ((with_reducible refine gate_ld (ty := 64) rfl ?_); (try (with_reducible refine gate_gd rfl ?_; refine gate_guard q8ju ?_; dsimp only)); refine load_st rfl rfl rfl qqr8 qr2c Tryd.underlying64 rfl qg3m ?_; (try simp only [Act.put, List.setIfInBounds_toArray, List.set_cons_zero, List.set_cons_succ])) | go_in)
              go_ret
              exact ⟨qxu5, q0iz⟩
             ·rw [if_neg c27] at H
              exact absurd H q6hr
            ·rw [if_neg c25] at H
             exact absurd H q6hr
           ·rw [if_neg c23] at H
            exact absurd H q6hr
          ·rw [if_neg c21] at H
           exact absurd H q6hr
         ·rw [if_neg c19] at H
          exact absurd H q6hr
        ·rw [if_neg c17] at H
         exact absurd H q6hr
       ·rw [if_neg c15] at H
        exact absurd H q6hr
      ·rw [if_neg c13] at H
       exact absurd H q6hr
     ·rw [if_neg c11] at H
      exact absurd H q6hr

end Go.Proofs.YtbkgaplldfilnaaDoor.P
