-- squeezed
-- Written by wip/hprint.py (this session's program) through the kit's print program; hand contracts are marked 'by hand'.
import Derived.Test.YtigagipeaheclaaDoorPx0
import Derived.Test.YtigagipeaheclaaDoorPx8
namespace Go.Proofs.YtigagipeaheclaaDoor.P
open Go.RowKit Go.Proofs.YtigagipeaheclaaDoorW.PrintWords Go.Proofs.YtigagipeaheclaaDoorW.PrintLast Go.Proofs.YtigagipeaheclaaDoorW.PrintMore
attribute [local go_sem] max2_int min2_int max_two min_two max_three min_three max_four min_four   -- for this text's walks alone
set_option linter.unusedVariables false
set_option linter.unusedSimpArgs false

/-! ### gangwayref06_Head: function 24 -/
mutual
def gangwayref06_Head.j0 : Nat → Int → Int → Int → Int → Bool → Bool → Int → Int → Int → Int → Int → ByteArray → Option (ByteArray)
 | 0, _, _, _, _, _, _, _, _, _, _, _, _ => none
 | k + 1, x1, x5, x146000, x146001, x146002, x146003, x146004, x146005, x146006, x146007, x146008, x146009 => if x146003 = true then (gangwayref06_Head.j1 k x1 (wrap64 (x5 + 8192)) x146000 x146001 x146002 x146003 x146004 x146005 x146006 x146007 x146008 x146009) else (gangwayref06_Head.j1 k x1 x5 x146000 x146001 x146002 x146003 x146004 x146005 x146006 x146007 x146008 x146009)
def gangwayref06_Head.j1 : Nat → Int → Int → Int → Int → Bool → Bool → Int → Int → Int → Int → Int → ByteArray → Option (ByteArray)
 | 0, _, _, _, _, _, _, _, _, _, _, _, _ => none
 | k + 1, x1, x5, x146000, x146001, x146002, x146003, x146004, x146005, x146006, x146007, x146008, x146009 => (gangwayref01_Bytes.f k (IntKind.u64.wrap (x146000)) 1).bind fun t146 => (if 1 + t146.size ≤ 9223372036854775807 then ((gangwayref01_Bytes.f k (IntKind.u64.wrap (wrap64 (20 + (x146009.size : Int)))) 2).bind fun t147 => (if ((⟨#[69]⟩ : ByteArray) ++ t146).size + t147.size ≤ 9223372036854775807 then ((gangwayref01_Bytes.f k (IntKind.u64.wrap (x146001)) 2).bind fun t148 => (if (((⟨#[69]⟩ : ByteArray) ++ t146) ++ t147).size + t148.size ≤ 9223372036854775807 then ((gangwayref01_Bytes.f k (IntKind.u64.wrap (x5)) 2).bind fun t149 => (if ((((⟨#[69]⟩ : ByteArray) ++ t146) ++ t147) ++ t148).size + t149.size ≤ 9223372036854775807 then ((gangwayref01_Bytes.f k (IntKind.u64.wrap (x146005)) 1).bind fun t150 => (if (((((⟨#[69]⟩ : ByteArray) ++ t146) ++ t147) ++ t148) ++ t149).size + t150.size ≤ 9223372036854775807 then ((gangwayref01_Bytes.f k (IntKind.u64.wrap (x146006)) 1).bind fun t151 => (if ((((((⟨#[69]⟩ : ByteArray) ++ t146) ++ t147) ++ t148) ++ t149) ++ t150).size + t151.size ≤ 9223372036854775807 then ((gangwayref01_Bytes.f k (IntKind.u64.wrap (x1)) 2).bind fun t152 => (if (((((((⟨#[69]⟩ : ByteArray) ++ t146) ++ t147) ++ t148) ++ t149) ++ t150) ++ t151).size + t152.size ≤ 9223372036854775807 then ((gangwayref01_Bytes.f k (IntKind.u64.wrap (x146007)) 4).bind fun t153 => (if ((((((((⟨#[69]⟩ : ByteArray) ++ t146) ++ t147) ++ t148) ++ t149) ++ t150) ++ t151) ++ t152).size + t153.size ≤ 9223372036854775807 then ((gangwayref01_Bytes.f k (IntKind.u64.wrap (x146008)) 4).bind fun t154 => (if (((((((((⟨#[69]⟩ : ByteArray) ++ t146) ++ t147) ++ t148) ++ t149) ++ t150) ++ t151) ++ t152) ++ t153).size + t154.size ≤ 9223372036854775807 then (some ((((((((((⟨#[69]⟩ : ByteArray) ++ t146) ++ t147) ++ t148) ++ t149) ++ t150) ++ t151) ++ t152) ++ t153) ++ t154)) else (none))) else (none))) else (none))) else (none))) else (none))) else (none))) else (none))) else (none))) else (none))
end
def gangwayref06_Head.f (k : Nat) (a0_0 : Int) (a0_1 : Int) (a0_2 : Bool) (a0_3 : Bool) (a0_4 : Int) (a0_5 : Int) (a0_6 : Int) (a0_7 : Int) (a0_8 : Int) (a0_9 : ByteArray) (a1 : Int) : Option (ByteArray) := if a0_2 = true then (gangwayref06_Head.j0 k a1 (wrap64 (a0_4 + 16384)) a0_0 a0_1 a0_2 a0_3 a0_4 a0_5 a0_6 a0_7 a0_8 a0_9) else (gangwayref06_Head.j0 k a1 a0_4 a0_0 a0_1 a0_2 a0_3 a0_4 a0_5 a0_6 a0_7 a0_8 a0_9)
theorem gangwayref06_Head.mono_l : ∀ k, (∀ y0 y1 y2 y3 y4 y5 y6 y7 y8 y9 y10 y11, LeO (gangwayref06_Head.j0 k y0 y1 y2 y3 y4 y5 y6 y7 y8 y9 y10 y11) (gangwayref06_Head.j0 (k + 1) y0 y1 y2 y3 y4 y5 y6 y7 y8 y9 y10 y11)) ∧ (∀ y0 y1 y2 y3 y4 y5 y6 y7 y8 y9 y10 y11, LeO (gangwayref06_Head.j1 k y0 y1 y2 y3 y4 y5 y6 y7 y8 y9 y10 y11) (gangwayref06_Head.j1 (k + 1) y0 y1 y2 y3 y4 y5 y6 y7 y8 y9 y10 y11))
 | 0 => ⟨fun _ _ _ _ _ _ _ _ _ _ _ _ r h => by simp [gangwayref06_Head.j0] at h, fun _ _ _ _ _ _ _ _ _ _ _ _ r h => by simp [gangwayref06_Head.j1] at h⟩
 | k + 1 => by
  obtain ⟨ih0, ih1⟩ := gangwayref06_Head.mono_l k
  refine ⟨?_, ?_⟩
  ·intro y0 y1 y2 y3 y4 y5 y6 y7 y8 y9 y10 y11
   unfold gangwayref06_Head.j0
   repeat' first
   | (with_reducible exact ih0 _ _ _ _ _ _ _ _ _ _ _ _)
   | (with_reducible exact ih1 _ _ _ _ _ _ _ _ _ _ _ _)
   | (with_reducible exact gangwayref01_Bytes.mono _ _ _)
   | (with_reducible exact LeO.refl _)
   | (with_reducible exact LeO.none _)
   | (with_reducible refine LeO.ite ?_ ?_)
   | (with_reducible refine LeO.bind ?_ (fun _ => ?_))
   | exact ih0 _ _ _ _ _ _ _ _ _ _ _ _
   | exact ih1 _ _ _ _ _ _ _ _ _ _ _ _
   | exact gangwayref01_Bytes.mono _ _ _
   | exact LeO.none _
   | refine LeO.ite ?_ ?_
   | refine LeO.bind ?_ (fun _ => ?_)
  ·intro y0 y1 y2 y3 y4 y5 y6 y7 y8 y9 y10 y11
   unfold gangwayref06_Head.j1
   repeat' first
   | (with_reducible exact ih0 _ _ _ _ _ _ _ _ _ _ _ _)
   | (with_reducible exact ih1 _ _ _ _ _ _ _ _ _ _ _ _)
   | (with_reducible exact gangwayref01_Bytes.mono _ _ _)
   | (with_reducible exact LeO.refl _)
   | (with_reducible exact LeO.none _)
   | (with_reducible refine LeO.ite ?_ ?_)
   | (with_reducible refine LeO.bind ?_ (fun _ => ?_))
   | exact ih0 _ _ _ _ _ _ _ _ _ _ _ _
   | exact ih1 _ _ _ _ _ _ _ _ _ _ _ _
   | exact gangwayref01_Bytes.mono _ _ _
   | exact LeO.none _
   | refine LeO.ite ?_ ?_
   | refine LeO.bind ?_ (fun _ => ?_)
theorem gangwayref06_Head.mono : ∀ a0 a1 a2 a3 a4 a5 a6 a7 a8 a9 a10 k, LeO (gangwayref06_Head.f k a0 a1 a2 a3 a4 a5 a6 a7 a8 a9 a10) (gangwayref06_Head.f (k + 1) a0 a1 a2 a3 a4 a5 a6 a7 a8 a9 a10) := by
 intro a0 a1 a2 a3 a4 a5 a6 a7 a8 a9 a10 k
 obtain ⟨ih0, ih1⟩ := gangwayref06_Head.mono_l k
 unfold gangwayref06_Head.f
 repeat' first
   | (with_reducible exact ih0 _ _ _ _ _ _ _ _ _ _ _ _)
   | (with_reducible exact ih1 _ _ _ _ _ _ _ _ _ _ _ _)
   | (with_reducible exact gangwayref01_Bytes.mono _ _ _)
   | (with_reducible exact LeO.refl _)
   | (with_reducible exact LeO.none _)
   | (with_reducible refine LeO.ite ?_ ?_)
   | (with_reducible refine LeO.bind ?_ (fun _ => ?_))
   | exact ih0 _ _ _ _ _ _ _ _ _ _ _ _
   | exact ih1 _ _ _ _ _ _ _ _ _ _ _ _
   | exact gangwayref01_Bytes.mono _ _ _
   | exact LeO.none _
   | refine LeO.ite ?_ ?_
   | refine LeO.bind ?_ (fun _ => ?_)
def gangwayref06_Head.T6 : Bool × List (List Nat × List Nat) := (true, [([], []), ([0], [0]), ([1], [1]), ([2], [2]), ([3], [3]), ([], []), ([5], [5]), ([6], [6]), ([7], [7]), ([8], [8]), ([9, 3], [9]), ([4, 10], [4, 10]), ([], []), ([12], [12]), ([13], [13]), ([14, 10], [14]), ([11, 15], [11, 15]), ([], []), ([17], [17]), ([18, 15], [18]), ([16, 19], [16, 19]), ([], []), ([21], [21]), ([22], [22]), ([23, 19], [23]), ([20, 24], [20, 24]), ([], []), ([26], [26]), ([27], [27]), ([28, 24], [28]), ([25, 29], [25, 29]), ([], []), ([31], [31]), ([32, 29], [32]), ([30, 33], [30, 33]), ([], []), ([35], [35]), ([36], [36]), ([37, 33], [37]), ([34, 38], [34, 38]), ([], []), ([40], [40]), ([41], [41]), ([42, 38], [42]), ([39, 43], [39, 43]), ([44, 43, 0, 1, 2, 3, 4, 5, 6, 7, 8, 9, 10, 11, 12, 13, 14, 15, 16, 17, 18, 19, 20, 21, 22, 23, 24, 25, 26, 27, 28, 29, 30, 31, 32, 33, 34, 35, 36, 37, 38, 39, 40, 41, 42, 43, 44], [44])])
def gangwayref06_Head.B6 : List Nat := [0, 1, 3, 7, 15, 0, 32, 96, 224, 480, 1007, 2047, 0, 4096, 12288, 30703, 65535, 0, 131072, 456687, 1048575, 0, 2097152, 6291456, 15661039, 33554431, 0, 67108864, 201326592, 502200303, 1073741823, 0, 2147483648, 7481522159, 17179869183, 0, 34359738368, 103079215104, 256589625327, 549755813887, 0, 1099511627776, 3298534883328, 8228048926703, 17592186044415, 35184372088831]
theorem gangwayref06_Head.tab6 : rtab .any (opsOf Tryd.f24 6) = gangwayref06_Head.T6 := by kernel_rfl
theorem gangwayref06_Head.bits6 : waitsOk gangwayref06_Head.T6.2 gangwayref06_Head.B6 = true := by kernel_rfl
set_option maxHeartbeats 8000000 in
set_option maxRecDepth 100000 in
theorem gangwayref06_Head.calls (k : Nat) (a0_0 : Int) (a0_1 : Int) (a0_2 : Bool) (a0_3 : Bool) (a0_4 : Int) (a0_5 : Int) (a0_6 : Int) (a0_7 : Int) (a0_8 : Int) (a0_9 : ByteArray) (a1 : Int) (r : ByteArray) (w : World) (h : gangwayref06_Head.f k a0_0 a0_1 a0_2 a0_3 a0_4 a0_5 a0_6 a0_7 a0_8 a0_9 a1 = some r) :
  Calls Tryd.prog 24 #[.agg #[.int .i64 a0_0, .int .i64 a0_1, .bool a0_2, .bool a0_3, .int .i64 a0_4, .int .i64 a0_5, .int .i64 a0_6, .int .u32 a0_7, .int .u32 a0_8, .string a0_9], .int .i64 a1] w fun e w' => e = .returned (.string r) ∧ Below w.heap.size w w' := by
 have hu24 := Tryd.underlying24
 have HB := Aside0.mk (Below.refl w.heap.size w)
 have H : (if a0_2 = true then (gangwayref06_Head.j0 k a1 (wrap64 (a0_4 + 16384)) a0_0 a0_1 a0_2 a0_3 a0_4 a0_5 a0_6 a0_7 a0_8 a0_9) else (gangwayref06_Head.j0 k a1 a0_4 a0_0 a0_1 a0_2 a0_3 a0_4 a0_5 a0_6 a0_7 a0_8 a0_9)) = some r := h
 clear h
 have HC3 := Aside0.mk H
 clear H
 go_enter Tryd.func24, Tryd.ntmps24
 go_upto_if 9 with (first | ((with_reducible refine gate_dst (N := 2) rfl ?_); refine box_event ?hg (N := 2) ?hd (cs := #[.int .i64 a0_0, .int .i64 a0_1, .bool a0_2, .bool a0_3, .int .i64 a0_4, .int .i64 a0_5, .int .i64 a0_6, .int .u32 a0_7, .int .u32 a0_8, .string a0_9]) (t := 24) ?hr ?_; (case hd => rfl); (case hg => rfl); (case hr => first | (go_simp; done) | (go_simp; rfl)); intro gb145 hg w4 hbox hb; have n0_ := Aside0.mk (below_step (by repeat (first | (with_reducible first | exact HB.out | apply below_alloc | apply pw_below_drewN | apply below_drew1) | exact HB.out)) hb); have n1_ := Aside0.mk (hbox); have n2_ := Aside0.mk ((by rw [hg]; exact (below_size (by repeat (first | (with_reducible first | exact HB.out | apply below_alloc | apply pw_below_drewN | apply below_drew1) | exact HB.out))) : w.heap.size ≤ gb145)); have n3_ := Aside0.mk ((by rw [hg]; exact (below_size (by repeat (first | (with_reducible first | exact HB.out | apply below_alloc | apply pw_below_drewN | apply below_drew1) | exact HB.out))) : w.heap.size ≤ gb145)); clear HB; have HB := n0_; have BK145 := n1_; have GW145 := n2_; have GE145 := n3_; clear n0_ n1_ n2_ n3_; clear hb hbox hg; have hcz5_0 : w4.cell? ⟨gb145, 0, none⟩ = some (.int .i64 a0_0) := (blk_cell BK145.out 0).trans rfl; have hcz5_1 : w4.cell? ⟨gb145, 1, none⟩ = some (.int .i64 a0_1) := (blk_cell BK145.out 1).trans rfl; have hcz5_2 : w4.cell? ⟨gb145, 2, none⟩ = some (.bool a0_2) := (blk_cell BK145.out 2).trans rfl; have hcz5_3 : w4.cell? ⟨gb145, 3, none⟩ = some (.bool a0_3) := (blk_cell BK145.out 3).trans rfl; have hcz5_4 : w4.cell? ⟨gb145, 4, none⟩ = some (.int .i64 a0_4) := (blk_cell BK145.out 4).trans rfl; have hcz5_5 : w4.cell? ⟨gb145, 5, none⟩ = some (.int .i64 a0_5) := (blk_cell BK145.out 5).trans rfl; have hcz5_6 : w4.cell? ⟨gb145, 6, none⟩ = some (.int .i64 a0_6) := (blk_cell BK145.out 6).trans rfl; have hcz5_7 : w4.cell? ⟨gb145, 7, none⟩ = some (.int .u32 a0_7) := (blk_cell BK145.out 7).trans rfl; have hcz5_8 : w4.cell? ⟨gb145, 8, none⟩ = some (.int .u32 a0_8) := (blk_cell BK145.out 8).trans rfl; have hcz5_9 : w4.cell? ⟨gb145, 9, none⟩ = some (.string a0_9) := (blk_cell BK145.out 9).trans rfl; have hfz5_0 := blk_frozen BK145.out 0; have hfz5_1 := blk_frozen BK145.out 1; have hfz5_2 := blk_frozen BK145.out 2; have hfz5_3 := blk_frozen BK145.out 3; have hfz5_4 := blk_frozen BK145.out 4; have hfz5_5 := blk_frozen BK145.out 5; have hfz5_6 := blk_frozen BK145.out 6; have hfz5_7 := blk_frozen BK145.out 7; have hfz5_8 := blk_frozen BK145.out 8; have hfz5_9 := blk_frozen BK145.out 9))
 (try simp only [Act.put, List.setIfInBounds_toArray, List.set_cons_zero, List.set_cons_succ])
 go_cut [5] (fun v5 wc => ∃ (kq : Nat) (x5_2 : Int), v5 = .int .i64 x5_2 ∧ Aside0 (gangwayref06_Head.j0 kq a1 x5_2 a0_0 a0_1 a0_2 a0_3 a0_4 a0_5 a0_6 a0_7 a0_8 a0_9 = some r) ∧ Aside0 (kq ≤ k) ∧ Aside0 (wc.heap[gb145]? = some (.cells #[.int .i64 a0_0, .int .i64 a0_1, .bool a0_2, .bool a0_3, .int .i64 a0_4, .int .i64 a0_5, .int .i64 a0_6, .int .u32 a0_7, .int .u32 a0_8, .string a0_9] 24 (0, 0))) ∧ Aside0 (Below w.heap.size w wc))
 case first =>
  have H := HC3.out
  clear HC3
  by_cases c6 : a0_2 = true
  ·subst c6
   have H1 : (gangwayref06_Head.j0 k a1 (wrap64 (a0_4 + 16384)) a0_0 a0_1 true a0_3 a0_4 a0_5 a0_6 a0_7 a0_8 a0_9) = some r := by rw [if_pos rfl] at H; exact H
   clear H
   have H := H1
   clear H1
   have H' := Aside0.mk H
   clear H
   go_wp2
   go_meet
   case rel => exact ⟨_, (wrap64 (a0_4 + 16384)), (by first | rfl | (simp; done) | (simp [*]; done)), H', ⟨by first | omega | exact Nat.le_refl _⟩, ⟨by (with_reducible repeat (first | refine blk_drewN ?_ _ | refine blk_drew ?_ | refine blk_alloc ?_ _)); exact BK145.out⟩, ⟨by repeat (first | (with_reducible first | exact HB.out | apply below_alloc | apply pw_below_drewN | apply below_drew1 | refine below_set ?_ GE145.out) | exact HB.out)⟩⟩
  ·replace c6 := Bool.eq_false_iff.mpr c6
   subst c6
   have H1 : (gangwayref06_Head.j0 k a1 a0_4 a0_0 a0_1 false a0_3 a0_4 a0_5 a0_6 a0_7 a0_8 a0_9) = some r := by rw [if_neg (show ¬ (false = true) by decide)] at H; exact H
   clear H
   have H := H1
   clear H1
   have H' := Aside0.mk H
   clear H
   go_wp2
   go_meet
   case rel => exact ⟨_, (a0_4), (by first | rfl | (simp; done) | (simp [*]; done)), H', ⟨by first | omega | exact Nat.le_refl _⟩, ⟨by (with_reducible repeat (first | refine blk_drewN ?_ _ | refine blk_drew ?_ | refine blk_alloc ?_ _)); exact BK145.out⟩, ⟨by repeat (first | (with_reducible first | exact HB.out | apply below_alloc | apply pw_below_drewN | apply below_drew1 | refine below_set ?_ GE145.out) | exact HB.out)⟩⟩
 case rest =>
  clear HC3
  try clear c2
  try clear p2
  try clear c6
  try clear p6
  try clear hcz5_0
  try clear hcz5_1
  try clear hcz5_2
  try clear hcz5_3
  try clear hcz5_4
  try clear hcz5_5
  try clear hcz5_6
  try clear hcz5_7
  try clear hcz5_8
  try clear hcz5_9
  try clear hfz5_0
  try clear hfz5_1
  try clear hfz5_2
  try clear hfz5_3
  try clear hfz5_4
  try clear hfz5_5
  try clear hfz5_6
  try clear hfz5_7
  try clear hfz5_8
  try clear hfz5_9
  obtain ⟨kq, x5_2, rfl, HA, HJ2, BK145, HB⟩ := hcut
  cases kq with
  | zero => exact absurd HA.out (by simp [gangwayref06_Head.j0])
  | succ kj2 =>
   have H := HA.out
   clear HA
   simp only [gangwayref06_Head.j0] at H
   have HC7 := Aside0.mk H
   clear H
   have hcz8_0 : wc.cell? ⟨gb145, 0, none⟩ = some (.int .i64 a0_0) := (blk_cell BK145.out 0).trans rfl
   have hcz8_1 : wc.cell? ⟨gb145, 1, none⟩ = some (.int .i64 a0_1) := (blk_cell BK145.out 1).trans rfl
   have hcz8_2 : wc.cell? ⟨gb145, 2, none⟩ = some (.bool a0_2) := (blk_cell BK145.out 2).trans rfl
   have hcz8_3 : wc.cell? ⟨gb145, 3, none⟩ = some (.bool a0_3) := (blk_cell BK145.out 3).trans rfl
   have hcz8_4 : wc.cell? ⟨gb145, 4, none⟩ = some (.int .i64 a0_4) := (blk_cell BK145.out 4).trans rfl
   have hcz8_5 : wc.cell? ⟨gb145, 5, none⟩ = some (.int .i64 a0_5) := (blk_cell BK145.out 5).trans rfl
   have hcz8_6 : wc.cell? ⟨gb145, 6, none⟩ = some (.int .i64 a0_6) := (blk_cell BK145.out 6).trans rfl
   have hcz8_7 : wc.cell? ⟨gb145, 7, none⟩ = some (.int .u32 a0_7) := (blk_cell BK145.out 7).trans rfl
   have hcz8_8 : wc.cell? ⟨gb145, 8, none⟩ = some (.int .u32 a0_8) := (blk_cell BK145.out 8).trans rfl
   have hcz8_9 : wc.cell? ⟨gb145, 9, none⟩ = some (.string a0_9) := (blk_cell BK145.out 9).trans rfl
   have hfz8_0 := blk_frozen BK145.out 0
   have hfz8_1 := blk_frozen BK145.out 1
   have hfz8_2 := blk_frozen BK145.out 2
   have hfz8_3 := blk_frozen BK145.out 3
   have hfz8_4 := blk_frozen BK145.out 4
   have hfz8_5 := blk_frozen BK145.out 5
   have hfz8_6 := blk_frozen BK145.out 6
   have hfz8_7 := blk_frozen BK145.out 7
   have hfz8_8 := blk_frozen BK145.out 8
   have hfz8_9 := blk_frozen BK145.out 9
   go_upto_if 13 with (fail)
   go_cut [5] (fun v5 wc => ∃ (kq : Nat) (x5_6 : Int), v5 = .int .i64 x5_6 ∧ Aside0 (gangwayref06_Head.j1 kq a1 x5_6 a0_0 a0_1 a0_2 a0_3 a0_4 a0_5 a0_6 a0_7 a0_8 a0_9 = some r) ∧ Aside0 (kq ≤ kj2) ∧ Aside0 (wc.heap[gb145]? = some (.cells #[.int .i64 a0_0, .int .i64 a0_1, .bool a0_2, .bool a0_3, .int .i64 a0_4, .int .i64 a0_5, .int .i64 a0_6, .int .u32 a0_7, .int .u32 a0_8, .string a0_9] 24 (0, 0))) ∧ Aside0 (Below w.heap.size w wc))
   case first =>
    have H := HC7.out
    clear HC7
    by_cases c9 : a0_3 = true
    ·subst c9
     have H1 : (gangwayref06_Head.j1 kj2 a1 (wrap64 (x5_2 + 8192)) a0_0 a0_1 a0_2 true a0_4 a0_5 a0_6 a0_7 a0_8 a0_9) = some r := by rw [if_pos rfl] at H; exact H
     clear H
     have H := H1
     clear H1
     have H' := Aside0.mk H
     clear H
     go_wp2
     go_meet
     case rel => exact ⟨_, (wrap64 (x5_2 + 8192)), (by first | rfl | (simp; done) | (simp [*]; done)), H', ⟨by have := HJ2.out; first | omega | exact Nat.le_refl _⟩, ⟨by (with_reducible repeat (first | refine blk_drewN ?_ _ | refine blk_drew ?_ | refine blk_alloc ?_ _)); exact BK145.out⟩, ⟨by repeat (first | (with_reducible first | exact HB.out | apply below_alloc | apply pw_below_drewN | apply below_drew1 | refine below_set ?_ GE145.out) | exact HB.out)⟩⟩
    ·replace c9 := Bool.eq_false_iff.mpr c9
     subst c9
     have H1 : (gangwayref06_Head.j1 kj2 a1 x5_2 a0_0 a0_1 a0_2 false a0_4 a0_5 a0_6 a0_7 a0_8 a0_9) = some r := by rw [if_neg (show ¬ (false = true) by decide)] at H; exact H
     clear H
     have H := H1
     clear H1
     have H' := Aside0.mk H
     clear H
     go_wp2
     go_meet
     case rel => exact ⟨_, (x5_2), (by first | rfl | (simp; done) | (simp [*]; done)), H', ⟨by have := HJ2.out; first | omega | exact Nat.le_refl _⟩, ⟨by (with_reducible repeat (first | refine blk_drewN ?_ _ | refine blk_drew ?_ | refine blk_alloc ?_ _)); exact BK145.out⟩, ⟨by repeat (first | (with_reducible first | exact HB.out | apply below_alloc | apply pw_below_drewN | apply below_drew1 | refine below_set ?_ GE145.out) | exact HB.out)⟩⟩
   case rest =>
    clear HC7
    try clear c2
    try clear p2
    try clear c6
    try clear p6
    try clear c9
    try clear hcz5_0
    try clear hcz5_1
    try clear hcz5_2
    try clear hcz5_3
    try clear hcz5_4
    try clear hcz5_5
    try clear hcz5_6
    try clear hcz5_7
    try clear hcz5_8
    try clear hcz5_9
    try clear hcz8_0
    try clear hcz8_1
    try clear hcz8_2
    try clear hcz8_3
    try clear hcz8_4
    try clear hcz8_5
    try clear hcz8_6
    try clear hcz8_7
    try clear hcz8_8
    try clear hcz8_9
    try clear hfz5_0
    try clear hfz5_1
    try clear hfz5_2
    try clear hfz5_3
    try clear hfz5_4
    try clear hfz5_5
    try clear hfz5_6
    try clear hfz5_7
    try clear hfz5_8
    try clear hfz5_9
    try clear hfz8_0
    try clear hfz8_1
    try clear hfz8_2
    try clear hfz8_3
    try clear hfz8_4
    try clear hfz8_5
    try clear hfz8_6
    try clear hfz8_7
    try clear hfz8_8
    try clear hfz8_9
    try clear p2
    try clear p6
    obtain ⟨kq, x5_6, rfl, HA, HJ6, BK145, HB⟩ := hcut
    cases kq with
    | zero => exact absurd HA.out (by simp [gangwayref06_Head.j1])
    | succ kj6 =>
     have H := HA.out
     clear HA
     simp only [gangwayref06_Head.j1] at H
     replace H := Option.bind_eq_some_iff.mp H
     obtain ⟨t146, A100, H⟩ := H
     replace H : (if 1 + t146.size ≤ 9223372036854775807 then ((gangwayref01_Bytes.f kj6 (IntKind.u64.wrap (wrap64 (20 + (a0_9.size : Int)))) 2).bind fun t147 => (if ((⟨#[69]⟩ : ByteArray) ++ t146).size + t147.size ≤ 9223372036854775807 then ((gangwayref01_Bytes.f kj6 (IntKind.u64.wrap (a0_1)) 2).bind fun t148 => (if (((⟨#[69]⟩ : ByteArray) ++ t146) ++ t147).size + t148.size ≤ 9223372036854775807 then ((gangwayref01_Bytes.f kj6 (IntKind.u64.wrap (x5_6)) 2).bind fun t149 => (if ((((⟨#[69]⟩ : ByteArray) ++ t146) ++ t147) ++ t148).size + t149.size ≤ 9223372036854775807 then ((gangwayref01_Bytes.f kj6 (IntKind.u64.wrap (a0_5)) 1).bind fun t150 => (if (((((⟨#[69]⟩ : ByteArray) ++ t146) ++ t147) ++ t148) ++ t149).size + t150.size ≤ 9223372036854775807 then ((gangwayref01_Bytes.f kj6 (IntKind.u64.wrap (a0_6)) 1).bind fun t151 => (if ((((((⟨#[69]⟩ : ByteArray) ++ t146) ++ t147) ++ t148) ++ t149) ++ t150).size + t151.size ≤ 9223372036854775807 then ((gangwayref01_Bytes.f kj6 (IntKind.u64.wrap (a1)) 2).bind fun t152 => (if (((((((⟨#[69]⟩ : ByteArray) ++ t146) ++ t147) ++ t148) ++ t149) ++ t150) ++ t151).size + t152.size ≤ 9223372036854775807 then ((gangwayref01_Bytes.f kj6 (IntKind.u64.wrap (a0_7)) 4).bind fun t153 => (if ((((((((⟨#[69]⟩ : ByteArray) ++ t146) ++ t147) ++ t148) ++ t149) ++ t150) ++ t151) ++ t152).size + t153.size ≤ 9223372036854775807 then ((gangwayref01_Bytes.f kj6 (IntKind.u64.wrap (a0_8)) 4).bind fun t154 => (if (((((((((⟨#[69]⟩ : ByteArray) ++ t146) ++ t147) ++ t148) ++ t149) ++ t150) ++ t151) ++ t152) ++ t153).size + t154.size ≤ 9223372036854775807 then (some ((((((((((⟨#[69]⟩ : ByteArray) ++ t146) ++ t147) ++ t148) ++ t149) ++ t150) ++ t151) ++ t152) ++ t153) ++ t154)) else (none))) else (none))) else (none))) else (none))) else (none))) else (none))) else (none))) else (none))) else (none)) = some r := H
     have A10 := Aside0.mk A100
     clear A100
     by_cases c11 : 1 + t146.size ≤ 9223372036854775807
     ·rw [if_pos c11] at H
      have c11b0 := eq_true c11
      have c11b1 : decide (1 + t146.size ≤ 9223372036854775807) = true := decide_eq_true c11
      try have c11b2 : (9223372036854775807 < 1 + t146.size) = False := eq_false (Nat.not_lt.2 c11)
      replace H := Option.bind_eq_some_iff.mp H
      obtain ⟨t147, A120, H⟩ := H
      replace H : (if ((⟨#[69]⟩ : ByteArray) ++ t146).size + t147.size ≤ 9223372036854775807 then ((gangwayref01_Bytes.f kj6 (IntKind.u64.wrap (a0_1)) 2).bind fun t148 => (if (((⟨#[69]⟩ : ByteArray) ++ t146) ++ t147).size + t148.size ≤ 9223372036854775807 then ((gangwayref01_Bytes.f kj6 (IntKind.u64.wrap (x5_6)) 2).bind fun t149 => (if ((((⟨#[69]⟩ : ByteArray) ++ t146) ++ t147) ++ t148).size + t149.size ≤ 9223372036854775807 then ((gangwayref01_Bytes.f kj6 (IntKind.u64.wrap (a0_5)) 1).bind fun t150 => (if (((((⟨#[69]⟩ : ByteArray) ++ t146) ++ t147) ++ t148) ++ t149).size + t150.size ≤ 9223372036854775807 then ((gangwayref01_Bytes.f kj6 (IntKind.u64.wrap (a0_6)) 1).bind fun t151 => (if ((((((⟨#[69]⟩ : ByteArray) ++ t146) ++ t147) ++ t148) ++ t149) ++ t150).size + t151.size ≤ 9223372036854775807 then ((gangwayref01_Bytes.f kj6 (IntKind.u64.wrap (a1)) 2).bind fun t152 => (if (((((((⟨#[69]⟩ : ByteArray) ++ t146) ++ t147) ++ t148) ++ t149) ++ t150) ++ t151).size + t152.size ≤ 9223372036854775807 then ((gangwayref01_Bytes.f kj6 (IntKind.u64.wrap (a0_7)) 4).bind fun t153 => (if ((((((((⟨#[69]⟩ : ByteArray) ++ t146) ++ t147) ++ t148) ++ t149) ++ t150) ++ t151) ++ t152).size + t153.size ≤ 9223372036854775807 then ((gangwayref01_Bytes.f kj6 (IntKind.u64.wrap (a0_8)) 4).bind fun t154 => (if (((((((((⟨#[69]⟩ : ByteArray) ++ t146) ++ t147) ++ t148) ++ t149) ++ t150) ++ t151) ++ t152) ++ t153).size + t154.size ≤ 9223372036854775807 then (some ((((((((((⟨#[69]⟩ : ByteArray) ++ t146) ++ t147) ++ t148) ++ t149) ++ t150) ++ t151) ++ t152) ++ t153) ++ t154)) else (none))) else (none))) else (none))) else (none))) else (none))) else (none))) else (none))) else (none)) = some r := H
      have A12 := Aside0.mk A120
      clear A120
      by_cases c13 : ((⟨#[69]⟩ : ByteArray) ++ t146).size + t147.size ≤ 9223372036854775807
      ·rw [if_pos c13] at H
       have c13b0 := eq_true c13
       have c13b1 : decide (((⟨#[69]⟩ : ByteArray) ++ t146).size + t147.size ≤ 9223372036854775807) = true := decide_eq_true c13
       have c13z := c13
       simp only [ByteArray.size_append] at c13z
       have c13z1 := eq_true c13z
       have c13z2 := eq_false (Nat.not_lt.2 c13z)
       try have c13b2 : (9223372036854775807 < ((⟨#[69]⟩ : ByteArray) ++ t146).size + t147.size) = False := eq_false (Nat.not_lt.2 c13)
       replace H := Option.bind_eq_some_iff.mp H
       obtain ⟨t148, A140, H⟩ := H
       replace H : (if (((⟨#[69]⟩ : ByteArray) ++ t146) ++ t147).size + t148.size ≤ 9223372036854775807 then ((gangwayref01_Bytes.f kj6 (IntKind.u64.wrap (x5_6)) 2).bind fun t149 => (if ((((⟨#[69]⟩ : ByteArray) ++ t146) ++ t147) ++ t148).size + t149.size ≤ 9223372036854775807 then ((gangwayref01_Bytes.f kj6 (IntKind.u64.wrap (a0_5)) 1).bind fun t150 => (if (((((⟨#[69]⟩ : ByteArray) ++ t146) ++ t147) ++ t148) ++ t149).size + t150.size ≤ 9223372036854775807 then ((gangwayref01_Bytes.f kj6 (IntKind.u64.wrap (a0_6)) 1).bind fun t151 => (if ((((((⟨#[69]⟩ : ByteArray) ++ t146) ++ t147) ++ t148) ++ t149) ++ t150).size + t151.size ≤ 9223372036854775807 then ((gangwayref01_Bytes.f kj6 (IntKind.u64.wrap (a1)) 2).bind fun t152 => (if (((((((⟨#[69]⟩ : ByteArray) ++ t146) ++ t147) ++ t148) ++ t149) ++ t150) ++ t151).size + t152.size ≤ 9223372036854775807 then ((gangwayref01_Bytes.f kj6 (IntKind.u64.wrap (a0_7)) 4).bind fun t153 => (if ((((((((⟨#[69]⟩ : ByteArray) ++ t146) ++ t147) ++ t148) ++ t149) ++ t150) ++ t151) ++ t152).size + t153.size ≤ 9223372036854775807 then ((gangwayref01_Bytes.f kj6 (IntKind.u64.wrap (a0_8)) 4).bind fun t154 => (if (((((((((⟨#[69]⟩ : ByteArray) ++ t146) ++ t147) ++ t148) ++ t149) ++ t150) ++ t151) ++ t152) ++ t153).size + t154.size ≤ 9223372036854775807 then (some ((((((((((⟨#[69]⟩ : ByteArray) ++ t146) ++ t147) ++ t148) ++ t149) ++ t150) ++ t151) ++ t152) ++ t153) ++ t154)) else (none))) else (none))) else (none))) else (none))) else (none))) else (none))) else (none)) = some r := H
       have A14 := Aside0.mk A140
       clear A140
       by_cases c15 : (((⟨#[69]⟩ : ByteArray) ++ t146) ++ t147).size + t148.size ≤ 9223372036854775807
       ·rw [if_pos c15] at H
        have c15b0 := eq_true c15
        have c15b1 : decide ((((⟨#[69]⟩ : ByteArray) ++ t146) ++ t147).size + t148.size ≤ 9223372036854775807) = true := decide_eq_true c15
        have c15z := c15
        simp only [ByteArray.size_append] at c15z
        have c15z1 := eq_true c15z
        have c15z2 := eq_false (Nat.not_lt.2 c15z)
        try have c15b2 : (9223372036854775807 < (((⟨#[69]⟩ : ByteArray) ++ t146) ++ t147).size + t148.size) = False := eq_false (Nat.not_lt.2 c15)
        replace H := Option.bind_eq_some_iff.mp H
        obtain ⟨t149, A160, H⟩ := H
        replace H : (if ((((⟨#[69]⟩ : ByteArray) ++ t146) ++ t147) ++ t148).size + t149.size ≤ 9223372036854775807 then ((gangwayref01_Bytes.f kj6 (IntKind.u64.wrap (a0_5)) 1).bind fun t150 => (if (((((⟨#[69]⟩ : ByteArray) ++ t146) ++ t147) ++ t148) ++ t149).size + t150.size ≤ 9223372036854775807 then ((gangwayref01_Bytes.f kj6 (IntKind.u64.wrap (a0_6)) 1).bind fun t151 => (if ((((((⟨#[69]⟩ : ByteArray) ++ t146) ++ t147) ++ t148) ++ t149) ++ t150).size + t151.size ≤ 9223372036854775807 then ((gangwayref01_Bytes.f kj6 (IntKind.u64.wrap (a1)) 2).bind fun t152 => (if (((((((⟨#[69]⟩ : ByteArray) ++ t146) ++ t147) ++ t148) ++ t149) ++ t150) ++ t151).size + t152.size ≤ 9223372036854775807 then ((gangwayref01_Bytes.f kj6 (IntKind.u64.wrap (a0_7)) 4).bind fun t153 => (if ((((((((⟨#[69]⟩ : ByteArray) ++ t146) ++ t147) ++ t148) ++ t149) ++ t150) ++ t151) ++ t152).size + t153.size ≤ 9223372036854775807 then ((gangwayref01_Bytes.f kj6 (IntKind.u64.wrap (a0_8)) 4).bind fun t154 => (if (((((((((⟨#[69]⟩ : ByteArray) ++ t146) ++ t147) ++ t148) ++ t149) ++ t150) ++ t151) ++ t152) ++ t153).size + t154.size ≤ 9223372036854775807 then (some ((((((((((⟨#[69]⟩ : ByteArray) ++ t146) ++ t147) ++ t148) ++ t149) ++ t150) ++ t151) ++ t152) ++ t153) ++ t154)) else (none))) else (none))) else (none))) else (none))) else (none))) else (none)) = some r := H
        have A16 := Aside0.mk A160
        clear A160
        by_cases c17 : ((((⟨#[69]⟩ : ByteArray) ++ t146) ++ t147) ++ t148).size + t149.size ≤ 9223372036854775807
        ·rw [if_pos c17] at H
         have c17b0 := eq_true c17
         have c17b1 : decide (((((⟨#[69]⟩ : ByteArray) ++ t146) ++ t147) ++ t148).size + t149.size ≤ 9223372036854775807) = true := decide_eq_true c17
         have c17z := c17
         simp only [ByteArray.size_append] at c17z
         have c17z1 := eq_true c17z
         have c17z2 := eq_false (Nat.not_lt.2 c17z)
         try have c17b2 : (9223372036854775807 < ((((⟨#[69]⟩ : ByteArray) ++ t146) ++ t147) ++ t148).size + t149.size) = False := eq_false (Nat.not_lt.2 c17)
         replace H := Option.bind_eq_some_iff.mp H
         obtain ⟨t150, A180, H⟩ := H
         replace H : (if (((((⟨#[69]⟩ : ByteArray) ++ t146) ++ t147) ++ t148) ++ t149).size + t150.size ≤ 9223372036854775807 then ((gangwayref01_Bytes.f kj6 (IntKind.u64.wrap (a0_6)) 1).bind fun t151 => (if ((((((⟨#[69]⟩ : ByteArray) ++ t146) ++ t147) ++ t148) ++ t149) ++ t150).size + t151.size ≤ 9223372036854775807 then ((gangwayref01_Bytes.f kj6 (IntKind.u64.wrap (a1)) 2).bind fun t152 => (if (((((((⟨#[69]⟩ : ByteArray) ++ t146) ++ t147) ++ t148) ++ t149) ++ t150) ++ t151).size + t152.size ≤ 9223372036854775807 then ((gangwayref01_Bytes.f kj6 (IntKind.u64.wrap (a0_7)) 4).bind fun t153 => (if ((((((((⟨#[69]⟩ : ByteArray) ++ t146) ++ t147) ++ t148) ++ t149) ++ t150) ++ t151) ++ t152).size + t153.size ≤ 9223372036854775807 then ((gangwayref01_Bytes.f kj6 (IntKind.u64.wrap (a0_8)) 4).bind fun t154 => (if (((((((((⟨#[69]⟩ : ByteArray) ++ t146) ++ t147) ++ t148) ++ t149) ++ t150) ++ t151) ++ t152) ++ t153).size + t154.size ≤ 9223372036854775807 then (some ((((((((((⟨#[69]⟩ : ByteArray) ++ t146) ++ t147) ++ t148) ++ t149) ++ t150) ++ t151) ++ t152) ++ t153) ++ t154)) else (none))) else (none))) else (none))) else (none))) else (none)) = some r := H
         have A18 := Aside0.mk A180
         clear A180
         by_cases c19 : (((((⟨#[69]⟩ : ByteArray) ++ t146) ++ t147) ++ t148) ++ t149).size + t150.size ≤ 9223372036854775807
         ·rw [if_pos c19] at H
          have c19b0 := eq_true c19
          have c19b1 : decide ((((((⟨#[69]⟩ : ByteArray) ++ t146) ++ t147) ++ t148) ++ t149).size + t150.size ≤ 9223372036854775807) = true := decide_eq_true c19
          have c19z := c19
          simp only [ByteArray.size_append] at c19z
          have c19z1 := eq_true c19z
          have c19z2 := eq_false (Nat.not_lt.2 c19z)
          try have c19b2 : (9223372036854775807 < (((((⟨#[69]⟩ : ByteArray) ++ t146) ++ t147) ++ t148) ++ t149).size + t150.size) = False := eq_false (Nat.not_lt.2 c19)
          replace H := Option.bind_eq_some_iff.mp H
          obtain ⟨t151, A200, H⟩ := H
          replace H : (if ((((((⟨#[69]⟩ : ByteArray) ++ t146) ++ t147) ++ t148) ++ t149) ++ t150).size + t151.size ≤ 9223372036854775807 then ((gangwayref01_Bytes.f kj6 (IntKind.u64.wrap (a1)) 2).bind fun t152 => (if (((((((⟨#[69]⟩ : ByteArray) ++ t146) ++ t147) ++ t148) ++ t149) ++ t150) ++ t151).size + t152.size ≤ 9223372036854775807 then ((gangwayref01_Bytes.f kj6 (IntKind.u64.wrap (a0_7)) 4).bind fun t153 => (if ((((((((⟨#[69]⟩ : ByteArray) ++ t146) ++ t147) ++ t148) ++ t149) ++ t150) ++ t151) ++ t152).size + t153.size ≤ 9223372036854775807 then ((gangwayref01_Bytes.f kj6 (IntKind.u64.wrap (a0_8)) 4).bind fun t154 => (if (((((((((⟨#[69]⟩ : ByteArray) ++ t146) ++ t147) ++ t148) ++ t149) ++ t150) ++ t151) ++ t152) ++ t153).size + t154.size ≤ 9223372036854775807 then (some ((((((((((⟨#[69]⟩ : ByteArray) ++ t146) ++ t147) ++ t148) ++ t149) ++ t150) ++ t151) ++ t152) ++ t153) ++ t154)) else (none))) else (none))) else (none))) else (none)) = some r := H
          have A20 := Aside0.mk A200
          clear A200
          by_cases c21 : ((((((⟨#[69]⟩ : ByteArray) ++ t146) ++ t147) ++ t148) ++ t149) ++ t150).size + t151.size ≤ 9223372036854775807
          ·rw [if_pos c21] at H
           have c21b0 := eq_true c21
           have c21b1 : decide (((((((⟨#[69]⟩ : ByteArray) ++ t146) ++ t147) ++ t148) ++ t149) ++ t150).size + t151.size ≤ 9223372036854775807) = true := decide_eq_true c21
           have c21z := c21
           simp only [ByteArray.size_append] at c21z
           have c21z1 := eq_true c21z
           have c21z2 := eq_false (Nat.not_lt.2 c21z)
           try have c21b2 : (9223372036854775807 < ((((((⟨#[69]⟩ : ByteArray) ++ t146) ++ t147) ++ t148) ++ t149) ++ t150).size + t151.size) = False := eq_false (Nat.not_lt.2 c21)
           replace H := Option.bind_eq_some_iff.mp H
           obtain ⟨t152, A220, H⟩ := H
           replace H : (if (((((((⟨#[69]⟩ : ByteArray) ++ t146) ++ t147) ++ t148) ++ t149) ++ t150) ++ t151).size + t152.size ≤ 9223372036854775807 then ((gangwayref01_Bytes.f kj6 (IntKind.u64.wrap (a0_7)) 4).bind fun t153 => (if ((((((((⟨#[69]⟩ : ByteArray) ++ t146) ++ t147) ++ t148) ++ t149) ++ t150) ++ t151) ++ t152).size + t153.size ≤ 9223372036854775807 then ((gangwayref01_Bytes.f kj6 (IntKind.u64.wrap (a0_8)) 4).bind fun t154 => (if (((((((((⟨#[69]⟩ : ByteArray) ++ t146) ++ t147) ++ t148) ++ t149) ++ t150) ++ t151) ++ t152) ++ t153).size + t154.size ≤ 9223372036854775807 then (some ((((((((((⟨#[69]⟩ : ByteArray) ++ t146) ++ t147) ++ t148) ++ t149) ++ t150) ++ t151) ++ t152) ++ t153) ++ t154)) else (none))) else (none))) else (none)) = some r := H
           have A22 := Aside0.mk A220
           clear A220
           by_cases c23 : (((((((⟨#[69]⟩ : ByteArray) ++ t146) ++ t147) ++ t148) ++ t149) ++ t150) ++ t151).size + t152.size ≤ 9223372036854775807
           ·rw [if_pos c23] at H
            have c23b0 := eq_true c23
            have c23b1 : decide ((((((((⟨#[69]⟩ : ByteArray) ++ t146) ++ t147) ++ t148) ++ t149) ++ t150) ++ t151).size + t152.size ≤ 9223372036854775807) = true := decide_eq_true c23
            have c23z := c23
            simp only [ByteArray.size_append] at c23z
            have c23z1 := eq_true c23z
            have c23z2 := eq_false (Nat.not_lt.2 c23z)
            try have c23b2 : (9223372036854775807 < (((((((⟨#[69]⟩ : ByteArray) ++ t146) ++ t147) ++ t148) ++ t149) ++ t150) ++ t151).size + t152.size) = False := eq_false (Nat.not_lt.2 c23)
            replace H := Option.bind_eq_some_iff.mp H
            obtain ⟨t153, A240, H⟩ := H
            replace H : (if ((((((((⟨#[69]⟩ : ByteArray) ++ t146) ++ t147) ++ t148) ++ t149) ++ t150) ++ t151) ++ t152).size + t153.size ≤ 9223372036854775807 then ((gangwayref01_Bytes.f kj6 (IntKind.u64.wrap (a0_8)) 4).bind fun t154 => (if (((((((((⟨#[69]⟩ : ByteArray) ++ t146) ++ t147) ++ t148) ++ t149) ++ t150) ++ t151) ++ t152) ++ t153).size + t154.size ≤ 9223372036854775807 then (some ((((((((((⟨#[69]⟩ : ByteArray) ++ t146) ++ t147) ++ t148) ++ t149) ++ t150) ++ t151) ++ t152) ++ t153) ++ t154)) else (none))) else (none)) = some r := H
            have A24 := Aside0.mk A240
            clear A240
            by_cases c25 : ((((((((⟨#[69]⟩ : ByteArray) ++ t146) ++ t147) ++ t148) ++ t149) ++ t150) ++ t151) ++ t152).size + t153.size ≤ 9223372036854775807
            ·rw [if_pos c25] at H
             have c25b0 := eq_true c25
             have c25b1 : decide (((((((((⟨#[69]⟩ : ByteArray) ++ t146) ++ t147) ++ t148) ++ t149) ++ t150) ++ t151) ++ t152).size + t153.size ≤ 9223372036854775807) = true := decide_eq_true c25
             have c25z := c25
             simp only [ByteArray.size_append] at c25z
             have c25z1 := eq_true c25z
             have c25z2 := eq_false (Nat.not_lt.2 c25z)
             try have c25b2 : (9223372036854775807 < ((((((((⟨#[69]⟩ : ByteArray) ++ t146) ++ t147) ++ t148) ++ t149) ++ t150) ++ t151) ++ t152).size + t153.size) = False := eq_false (Nat.not_lt.2 c25)
             replace H := Option.bind_eq_some_iff.mp H
             obtain ⟨t154, A260, H⟩ := H
             replace H : (if (((((((((⟨#[69]⟩ : ByteArray) ++ t146) ++ t147) ++ t148) ++ t149) ++ t150) ++ t151) ++ t152) ++ t153).size + t154.size ≤ 9223372036854775807 then (some ((((((((((⟨#[69]⟩ : ByteArray) ++ t146) ++ t147) ++ t148) ++ t149) ++ t150) ++ t151) ++ t152) ++ t153) ++ t154)) else (none)) = some r := H
             have A26 := Aside0.mk A260
             clear A260
             by_cases c27 : (((((((((⟨#[69]⟩ : ByteArray) ++ t146) ++ t147) ++ t148) ++ t149) ++ t150) ++ t151) ++ t152) ++ t153).size + t154.size ≤ 9223372036854775807
             ·rw [if_pos c27] at H
              have c27b0 := eq_true c27
              have c27b1 : decide ((((((((((⟨#[69]⟩ : ByteArray) ++ t146) ++ t147) ++ t148) ++ t149) ++ t150) ++ t151) ++ t152) ++ t153).size + t154.size ≤ 9223372036854775807) = true := decide_eq_true c27
              have c27z := c27
              simp only [ByteArray.size_append] at c27z
              have c27z1 := eq_true c27z
              have c27z2 := eq_false (Nat.not_lt.2 c27z)
              try have c27b2 : (9223372036854775807 < (((((((((⟨#[69]⟩ : ByteArray) ++ t146) ++ t147) ++ t148) ++ t149) ++ t150) ++ t151) ++ t152) ++ t153).size + t154.size) = False := eq_false (Nat.not_lt.2 c27)
              obtain rfl := Option.some.inj H
              try go_wp2
              have n0_ := Aside0.mk (blk_drew BK145.out)
              have n1_ := Aside0.mk (below_drew1 HB.out)
              clear BK145
              clear HB
              have BK145 := n0_
              have HB := n1_
              clear n0_ n1_
              refine start_ (n := 46) (S := fun w' => w'.cell? ⟨gb145, 0, none⟩ = some (.int .i64 a0_0) ∧ w'.cell? ⟨gb145, 1, none⟩ = some (.int .i64 a0_1) ∧ w'.cell? ⟨gb145, 2, none⟩ = some (.bool a0_2) ∧ w'.cell? ⟨gb145, 3, none⟩ = some (.bool a0_3) ∧ w'.cell? ⟨gb145, 4, none⟩ = some (.int .i64 a0_4) ∧ w'.cell? ⟨gb145, 5, none⟩ = some (.int .i64 a0_5) ∧ w'.cell? ⟨gb145, 6, none⟩ = some (.int .i64 a0_6) ∧ w'.cell? ⟨gb145, 7, none⟩ = some (.int .u32 a0_7) ∧ w'.cell? ⟨gb145, 8, none⟩ = some (.int .u32 a0_8) ∧ w'.cell? ⟨gb145, 9, none⟩ = some (.string a0_9)) (ds := []) #[false, false, false, false, false, false, false, false, false, false, false, false, false, false, false, false, false, false, false, false, false, false, false, false, false, false, false, false, false, false, false, false, false, false, false, false, false, false, false, false, false, false, false, false, false, false] (by kernel_rfl) rfl rfl ⟨(blk_cell BK145.out 0).trans rfl, (blk_cell BK145.out 1).trans rfl, (blk_cell BK145.out 2).trans rfl, (blk_cell BK145.out 3).trans rfl, (blk_cell BK145.out 4).trans rfl, (blk_cell BK145.out 5).trans rfl, (blk_cell BK145.out 6).trans rfl, (blk_cell BK145.out 7).trans rfl, (blk_cell BK145.out 8).trans rfl, (blk_cell BK145.out 9).trans rfl⟩ (fun hHeld => ?_); refine with_tabW gangwayref06_Head.tab6 gangwayref06_Head.bits6 (fun HT_ HW_ => ?_)
              generalize wc.drew = w28 at BK145 HB hHeld ⊢
              refine pure_ (i := 0) (N := some 16) (v := ?_) (a' := ?_) #[true, false, false, false, false, false, false, false, false, false, false, false, false, false, false, false, false, false, false, false, false, false, false, false, false, false, false, false, false, false, false, false, false, false, false, false, false, false, false, false, false, false, false, false, false, false] rfl rfl (any_of HT_.out (by kernel_rfl)) (fun _ _ _ h => h) (Or.inl ⟨by rfl, ?_⟩) ?_ ?_
              rotate_left
              ·intro w'
               go_simp
               with_reducible rfl
              rotate_left
              ·simp only [Act.put, List.setIfInBounds_toArray, List.set_cons_zero, List.set_cons_succ, i64_w, i32_w]
               rfl
              refine pure_ (i := 5) (N := some 21) (v := ?_) (a' := ?_) #[true, false, false, false, false, true, false, false, false, false, false, false, false, false, false, false, false, false, false, false, false, false, false, false, false, false, false, false, false, false, false, false, false, false, false, false, false, false, false, false, false, false, false, false, false, false] rfl rfl (any_of HT_.out (by kernel_rfl)) (fun _ _ _ h => h) (Or.inl ⟨by rfl, ?_⟩) ?_ ?_
              rotate_left
              ·intro w'
               go_simp
               with_reducible rfl
              rotate_left
              ·simp only [Act.put, List.setIfInBounds_toArray, List.set_cons_zero, List.set_cons_succ, i64_w, i32_w]
               rfl
              refine pure_ (i := 12) (N := some 28) (v := ?_) (a' := ?_) #[true, false, false, false, false, true, false, false, false, false, false, false, true, false, false, false, false, false, false, false, false, false, false, false, false, false, false, false, false, false, false, false, false, false, false, false, false, false, false, false, false, false, false, false, false, false] rfl rfl (any_of HT_.out (by kernel_rfl)) (fun _ _ _ h => h) (Or.inl ⟨by rfl, ?_⟩) ?_ ?_
              rotate_left
              ·intro w'
               go_simp
               with_reducible rfl
              rotate_left
              ·simp only [Act.put, List.setIfInBounds_toArray, List.set_cons_zero, List.set_cons_succ, i64_w, i32_w]
               rfl
              refine pure_ (i := 17) (N := some 33) (v := ?_) (a' := ?_) #[true, false, false, false, false, true, false, false, false, false, false, false, true, false, false, false, false, true, false, false, false, false, false, false, false, false, false, false, false, false, false, false, false, false, false, false, false, false, false, false, false, false, false, false, false, false] rfl rfl (any_of HT_.out (by kernel_rfl)) (fun _ _ _ h => h) (Or.inl ⟨by rfl, ?_⟩) ?_ ?_
              rotate_left
              ·intro w'
               go_simp
               with_reducible rfl
              rotate_left
              ·simp only [Act.put, List.setIfInBounds_toArray, List.set_cons_zero, List.set_cons_succ, i64_w, i32_w]
               rfl
              refine pure_ (i := 18) (N := some 34) (v := ?_) (a' := ?_) #[true, false, false, false, false, true, false, false, false, false, false, false, true, false, false, false, false, true, true, false, false, false, false, false, false, false, false, false, false, false, false, false, false, false, false, false, false, false, false, false, false, false, false, false, false, false] rfl rfl (any_of HT_.out (by kernel_rfl)) (fun _ _ _ h => h) (Or.inl ⟨by rfl, ?_⟩) ?_ ?_
              rotate_left
              ·intro w'
               go_simp
               with_reducible rfl
              rotate_left
              ·simp only [Act.put, List.setIfInBounds_toArray, List.set_cons_zero, List.set_cons_succ, i64_w, i32_w]
               rfl
              refine pure_ (i := 21) (N := some 37) (v := ?_) (a' := ?_) #[true, false, false, false, false, true, false, false, false, false, false, false, true, false, false, false, false, true, true, false, false, true, false, false, false, false, false, false, false, false, false, false, false, false, false, false, false, false, false, false, false, false, false, false, false, false] rfl rfl (any_of HT_.out (by kernel_rfl)) (fun _ _ _ h => h) (Or.inl ⟨by rfl, ?_⟩) ?_ ?_
              rotate_left
              ·intro w'
               go_simp
               with_reducible rfl
              rotate_left
              ·simp only [Act.put, List.setIfInBounds_toArray, List.set_cons_zero, List.set_cons_succ, i64_w, i32_w]
               rfl
              refine pure_ (i := 26) (N := some 42) (v := ?_) (a' := ?_) #[true, false, false, false, false, true, false, false, false, false, false, false, true, false, false, false, false, true, true, false, false, true, false, false, false, false, true, false, false, false, false, false, false, false, false, false, false, false, false, false, false, false, false, false, false, false] rfl rfl (any_of HT_.out (by kernel_rfl)) (fun _ _ _ h => h) (Or.inl ⟨by rfl, ?_⟩) ?_ ?_
              rotate_left
              ·intro w'
               go_simp
               with_reducible rfl
              rotate_left
              ·simp only [Act.put, List.setIfInBounds_toArray, List.set_cons_zero, List.set_cons_succ, i64_w, i32_w]
               rfl
              refine pure_ (i := 31) (N := some 47) (v := ?_) (a' := ?_) #[true, false, false, false, false, true, false, false, false, false, false, false, true, false, false, false, false, true, true, false, false, true, false, false, false, false, true, false, false, false, false, true, false, false, false, false, false, false, false, false, false, false, false, false, false, false] rfl rfl (any_of HT_.out (by kernel_rfl)) (fun _ _ _ h => h) (Or.inl ⟨by rfl, ?_⟩) ?_ ?_
              rotate_left
              ·intro w'
               go_simp
               with_reducible rfl
              rotate_left
              ·simp only [Act.put, List.setIfInBounds_toArray, List.set_cons_zero, List.set_cons_succ, i64_w, i32_w]
               rfl
              refine pure_ (i := 32) (N := some 48) (v := ?_) (a' := ?_) #[true, false, false, false, false, true, false, false, false, false, false, false, true, false, false, false, false, true, true, false, false, true, false, false, false, false, true, false, false, false, false, true, true, false, false, false, false, false, false, false, false, false, false, false, false, false] rfl rfl (any_of HT_.out (by kernel_rfl)) (fun _ _ _ h => h) (Or.inl ⟨by rfl, ?_⟩) ?_ ?_
              rotate_left
              ·intro w'
               go_simp
               with_reducible rfl
              rotate_left
              ·simp only [Act.put, List.setIfInBounds_toArray, List.set_cons_zero, List.set_cons_succ, i64_w, i32_w]
               rfl
              refine pure_ (i := 35) (N := some 51) (v := ?_) (a' := ?_) #[true, false, false, false, false, true, false, false, false, false, false, false, true, false, false, false, false, true, true, false, false, true, false, false, false, false, true, false, false, false, false, true, true, false, false, true, false, false, false, false, false, false, false, false, false, false] rfl rfl (any_of HT_.out (by kernel_rfl)) (fun _ _ _ h => h) (Or.inl ⟨by rfl, ?_⟩) ?_ ?_
              rotate_left
              ·intro w'
               go_simp
               with_reducible rfl
              rotate_left
              ·simp only [Act.put, List.setIfInBounds_toArray, List.set_cons_zero, List.set_cons_succ, i64_w, i32_w]
               rfl
              refine pure_ (i := 40) (N := some 56) (v := ?_) (a' := ?_) #[true, false, false, false, false, true, false, false, false, false, false, false, true, false, false, false, false, true, true, false, false, true, false, false, false, false, true, false, false, false, false, true, true, false, false, true, false, false, false, false, true, false, false, false, false, false] rfl rfl (any_of HT_.out (by kernel_rfl)) (fun _ _ _ h => h) (Or.inl ⟨by rfl, ?_⟩) ?_ ?_
              rotate_left
              ·intro w'
               go_simp
               with_reducible rfl
              rotate_left
              ·simp only [Act.put, List.setIfInBounds_toArray, List.set_cons_zero, List.set_cons_succ, i64_w, i32_w]
               rfl
              refine take_ (i := 1) (N := some 17) (v := ?_) (a' := ?_) #[true, true, false, false, false, true, false, false, false, false, false, false, true, false, false, false, false, true, true, false, false, true, false, false, false, false, true, false, false, false, false, true, true, false, false, true, false, false, false, false, true, false, false, false, false, false] rfl rfl (take_ofW HT_.out HW_.out (by kernel_rfl)) (fun _ _ _ h => h) (Or.inl ⟨by rfl, ?_⟩) hHeld ?_ ?_
              rotate_left
              ·rintro w' ⟨s0, s1, s2, s3, s4, s5, s6, s7, s8, s9⟩
               go_simp
               with_reducible rfl
              rotate_left
              ·simp only [Act.put, List.setIfInBounds_toArray, List.set_cons_zero, List.set_cons_succ, i64_w, i32_w]
               rfl
              refine pure_ (i := 2) (N := some 18) (v := ?_) (a' := ?_) #[true, true, true, false, false, true, false, false, false, false, false, false, true, false, false, false, false, true, true, false, false, true, false, false, false, false, true, false, false, false, false, true, true, false, false, true, false, false, false, false, true, false, false, false, false, false] rfl rfl (any_of HT_.out (by kernel_rfl)) (fun _ _ _ h => h) (Or.inl ⟨by rfl, ?_⟩) ?_ ?_
              rotate_left
              ·intro w'
               go_simp
               with_reducible rfl
              rotate_left
              ·simp only [Act.put, List.setIfInBounds_toArray, List.set_cons_zero, List.set_cons_succ, i64_w, i32_w]
               rfl
              refine take_ (i := 6) (N := some 22) (v := ?_) (a' := ?_) #[true, true, true, false, false, true, true, false, false, false, false, false, true, false, false, false, false, true, true, false, false, true, false, false, false, false, true, false, false, false, false, true, true, false, false, true, false, false, false, false, true, false, false, false, false, false] rfl rfl (take_ofW HT_.out HW_.out (by kernel_rfl)) (fun _ _ _ h => h) (Or.inl ⟨by rfl, ?_⟩) hHeld ?_ ?_
              rotate_left
              ·rintro w' ⟨s0, s1, s2, s3, s4, s5, s6, s7, s8, s9⟩
               go_simp
               with_reducible rfl
              rotate_left
              ·simp only [Act.put, List.setIfInBounds_toArray, List.set_cons_zero, List.set_cons_succ, i64_w, i32_w]
               rfl
              refine pure_ (i := 7) (N := some 23) (v := ?_) (a' := ?_) #[true, true, true, false, false, true, true, true, false, false, false, false, true, false, false, false, false, true, true, false, false, true, false, false, false, false, true, false, false, false, false, true, true, false, false, true, false, false, false, false, true, false, false, false, false, false] rfl rfl (any_of HT_.out (by kernel_rfl)) (fun _ _ _ h => h) (Or.inl ⟨by rfl, ?_⟩) ?_ ?_
              rotate_left
              ·intro w'
               go_simp
               with_reducible rfl
              rotate_left
              ·simp only [Act.put, List.setIfInBounds_toArray, List.set_cons_zero, List.set_cons_succ, i64_w, i32_w]
               rfl
              refine pure_ (i := 8) (N := some 24) (v := ?_) (a' := ?_) #[true, true, true, false, false, true, true, true, true, false, false, false, true, false, false, false, false, true, true, false, false, true, false, false, false, false, true, false, false, false, false, true, true, false, false, true, false, false, false, false, true, false, false, false, false, false] rfl rfl (any_of HT_.out (by kernel_rfl)) (fun _ _ _ h => h) (Or.inl ⟨by rfl, ?_⟩) ?_ ?_
              rotate_left
              ·intro w'
               go_simp
               with_reducible rfl
              rotate_left
              ·simp only [Act.put, List.setIfInBounds_toArray, List.set_cons_zero, List.set_cons_succ, i64_w, i32_w]
               rfl
              refine pure_ (i := 9) (N := some 25) (v := ?_) (a' := ?_) #[true, true, true, false, false, true, true, true, true, true, false, false, true, false, false, false, false, true, true, false, false, true, false, false, false, false, true, false, false, false, false, true, true, false, false, true, false, false, false, false, true, false, false, false, false, false] rfl rfl (any_of HT_.out (by kernel_rfl)) (fun _ _ _ h => h) (Or.inl ⟨by rfl, ?_⟩) ?_ ?_
              rotate_left
              ·intro w'
               go_simp
               with_reducible rfl
              rotate_left
              ·simp only [Act.put, List.setIfInBounds_toArray, List.set_cons_zero, List.set_cons_succ, i64_w, i32_w]
               rfl
              refine take_ (i := 13) (N := some 29) (v := ?_) (a' := ?_) #[true, true, true, false, false, true, true, true, true, true, false, false, true, true, false, false, false, true, true, false, false, true, false, false, false, false, true, false, false, false, false, true, true, false, false, true, false, false, false, false, true, false, false, false, false, false] rfl rfl (take_ofW HT_.out HW_.out (by kernel_rfl)) (fun _ _ _ h => h) (Or.inl ⟨by rfl, ?_⟩) hHeld ?_ ?_
              rotate_left
              ·rintro w' ⟨s0, s1, s2, s3, s4, s5, s6, s7, s8, s9⟩
               go_simp
               with_reducible rfl
              rotate_left
              ·simp only [Act.put, List.setIfInBounds_toArray, List.set_cons_zero, List.set_cons_succ, i64_w, i32_w]
               rfl
              refine pure_ (i := 14) (N := some 30) (v := ?_) (a' := ?_) #[true, true, true, false, false, true, true, true, true, true, false, false, true, true, true, false, false, true, true, false, false, true, false, false, false, false, true, false, false, false, false, true, true, false, false, true, false, false, false, false, true, false, false, false, false, false] rfl rfl (any_of HT_.out (by kernel_rfl)) (fun _ _ _ h => h) (Or.inl ⟨by rfl, ?_⟩) ?_ ?_
              rotate_left
              ·intro w'
               go_simp
               with_reducible rfl
              rotate_left
              ·simp only [Act.put, List.setIfInBounds_toArray, List.set_cons_zero, List.set_cons_succ, i64_w, i32_w]
               rfl
              refine take_ (i := 22) (N := some 38) (v := ?_) (a' := ?_) #[true, true, true, false, false, true, true, true, true, true, false, false, true, true, true, false, false, true, true, false, false, true, true, false, false, false, true, false, false, false, false, true, true, false, false, true, false, false, false, false, true, false, false, false, false, false] rfl rfl (take_ofW HT_.out HW_.out (by kernel_rfl)) (fun _ _ _ h => h) (Or.inl ⟨by rfl, ?_⟩) hHeld ?_ ?_
              rotate_left
              ·rintro w' ⟨s0, s1, s2, s3, s4, s5, s6, s7, s8, s9⟩
               go_simp
               with_reducible rfl
              rotate_left
              ·simp only [Act.put, List.setIfInBounds_toArray, List.set_cons_zero, List.set_cons_succ, i64_w, i32_w]
               rfl
              refine pure_ (i := 23) (N := some 39) (v := ?_) (a' := ?_) #[true, true, true, false, false, true, true, true, true, true, false, false, true, true, true, false, false, true, true, false, false, true, true, true, false, false, true, false, false, false, false, true, true, false, false, true, false, false, false, false, true, false, false, false, false, false] rfl rfl (any_of HT_.out (by kernel_rfl)) (fun _ _ _ h => h) (Or.inl ⟨by rfl, ?_⟩) ?_ ?_
              rotate_left
              ·intro w'
               go_simp
               with_reducible rfl
              rotate_left
              ·simp only [Act.put, List.setIfInBounds_toArray, List.set_cons_zero, List.set_cons_succ, i64_w, i32_w]
               rfl
              refine take_ (i := 27) (N := some 43) (v := ?_) (a' := ?_) #[true, true, true, false, false, true, true, true, true, true, false, false, true, true, true, false, false, true, true, false, false, true, true, true, false, false, true, true, false, false, false, true, true, false, false, true, false, false, false, false, true, false, false, false, false, false] rfl rfl (take_ofW HT_.out HW_.out (by kernel_rfl)) (fun _ _ _ h => h) (Or.inl ⟨by rfl, ?_⟩) hHeld ?_ ?_
              rotate_left
              ·rintro w' ⟨s0, s1, s2, s3, s4, s5, s6, s7, s8, s9⟩
               go_simp
               with_reducible rfl
              rotate_left
              ·simp only [Act.put, List.setIfInBounds_toArray, List.set_cons_zero, List.set_cons_succ, i64_w, i32_w]
               rfl
              refine pure_ (i := 28) (N := some 44) (v := ?_) (a' := ?_) #[true, true, true, false, false, true, true, true, true, true, false, false, true, true, true, false, false, true, true, false, false, true, true, true, false, false, true, true, true, false, false, true, true, false, false, true, false, false, false, false, true, false, false, false, false, false] rfl rfl (any_of HT_.out (by kernel_rfl)) (fun _ _ _ h => h) (Or.inl ⟨by rfl, ?_⟩) ?_ ?_
              rotate_left
              ·intro w'
               go_simp
               with_reducible rfl
              rotate_left
              ·simp only [Act.put, List.setIfInBounds_toArray, List.set_cons_zero, List.set_cons_succ, i64_w, i32_w]
               rfl
              refine take_ (i := 36) (N := some 52) (v := ?_) (a' := ?_) #[true, true, true, false, false, true, true, true, true, true, false, false, true, true, true, false, false, true, true, false, false, true, true, true, false, false, true, true, true, false, false, true, true, false, false, true, true, false, false, false, true, false, false, false, false, false] rfl rfl (take_ofW HT_.out HW_.out (by kernel_rfl)) (fun _ _ _ h => h) (Or.inl ⟨by rfl, ?_⟩) hHeld ?_ ?_
              rotate_left
              ·rintro w' ⟨s0, s1, s2, s3, s4, s5, s6, s7, s8, s9⟩
               go_simp
               with_reducible rfl
              rotate_left
              ·simp only [Act.put, List.setIfInBounds_toArray, List.set_cons_zero, List.set_cons_succ, i64_w, i32_w]
               rfl
              refine pure_ (i := 37) (N := some 53) (v := ?_) (a' := ?_) #[true, true, true, false, false, true, true, true, true, true, false, false, true, true, true, false, false, true, true, false, false, true, true, true, false, false, true, true, true, false, false, true, true, false, false, true, true, true, false, false, true, false, false, false, false, false] rfl rfl (any_of HT_.out (by kernel_rfl)) (fun _ _ _ h => h) (Or.inl ⟨by rfl, ?_⟩) ?_ ?_
              rotate_left
              ·intro w'
               go_simp
               with_reducible rfl
              rotate_left
              ·simp only [Act.put, List.setIfInBounds_toArray, List.set_cons_zero, List.set_cons_succ, i64_w, i32_w]
               rfl
              refine take_ (i := 41) (N := some 57) (v := ?_) (a' := ?_) #[true, true, true, false, false, true, true, true, true, true, false, false, true, true, true, false, false, true, true, false, false, true, true, true, false, false, true, true, true, false, false, true, true, false, false, true, true, true, false, false, true, true, false, false, false, false] rfl rfl (take_ofW HT_.out HW_.out (by kernel_rfl)) (fun _ _ _ h => h) (Or.inl ⟨by rfl, ?_⟩) hHeld ?_ ?_
              rotate_left
              ·rintro w' ⟨s0, s1, s2, s3, s4, s5, s6, s7, s8, s9⟩
               go_simp
               with_reducible rfl
              rotate_left
              ·simp only [Act.put, List.setIfInBounds_toArray, List.set_cons_zero, List.set_cons_succ, i64_w, i32_w]
               rfl
              refine pure_ (i := 42) (N := some 58) (v := ?_) (a' := ?_) #[true, true, true, false, false, true, true, true, true, true, false, false, true, true, true, false, false, true, true, false, false, true, true, true, false, false, true, true, true, false, false, true, true, false, false, true, true, true, false, false, true, true, true, false, false, false] rfl rfl (any_of HT_.out (by kernel_rfl)) (fun _ _ _ h => h) (Or.inl ⟨by rfl, ?_⟩) ?_ ?_
              rotate_left
              ·intro w'
               go_simp
               with_reducible rfl
              rotate_left
              ·simp only [Act.put, List.setIfInBounds_toArray, List.set_cons_zero, List.set_cons_succ, i64_w, i32_w]
               rfl
              refine one_ (i := 3) (N := some 19) #[true, true, true, true, false, true, true, true, true, true, false, false, true, true, true, false, false, true, true, false, false, true, true, true, false, false, true, true, true, false, false, true, true, false, false, true, true, true, false, false, true, true, true, false, false, false] rfl rfl (one_of HT_.out (by kernel_rfl)) (by decide) (fun K hK => ?_)
              refine goes_ Tryd.func34 (by kernel_rfl) rfl #[.int .u64 (IntKind.u64.wrap (a0_0)), .int .i64 1] (by first | rfl | exact wanted_on rfl rfl rfl (by first | rfl | (simp [*]; done) | (simp [*, IntKind.wrap_u32]; done))) rfl rfl (by (try simp only [List.map_toArray, List.map_cons, List.map_nil]); first | done | rfl | (simp only [List.length_drop, List.length_take]; rfl)) ?_
              with_reducible refine (gangwayref01_Bytes.calls kj6 (IntKind.u64.wrap (a0_0)) 1 t146 _ A10.out).mono ?_
              rintro e w29 ⟨rfl, hb⟩
              refine ⟨_, rfl, ?_⟩
              have n0_ := Aside0.mk (blk_below (g := gb145) (o := .cells #[.int .i64 a0_0, .int .i64 a0_1, .bool a0_2, .bool a0_3, .int .i64 a0_4, .int .i64 a0_5, .int .i64 a0_6, .int .u32 a0_7, .int .u32 a0_8, .string a0_9] 24 (0, 0)) (by (with_reducible repeat (first | refine blk_drewN ?_ _ | refine blk_drew ?_ | refine blk_alloc ?_ _)); exact BK145.out) hb)
              have n1_ := Aside0.mk (below_step (by repeat (first | (with_reducible first | exact HB.out | apply below_alloc | apply pw_below_drewN | apply below_drew1 | refine below_set ?_ GE145.out) | exact HB.out)) hb)
              clear BK145
              clear HB
              have BK145 := n0_
              have HB := n1_
              clear n0_ n1_
              (try clear hb)
              (try clear hb2)
              (try clear hk)
              (try clear hi)
              refine hK.out _ _ ⟨(blk_cell BK145.out 0).trans rfl, (blk_cell BK145.out 1).trans rfl, (blk_cell BK145.out 2).trans rfl, (blk_cell BK145.out 3).trans rfl, (blk_cell BK145.out 4).trans rfl, (blk_cell BK145.out 5).trans rfl, (blk_cell BK145.out 6).trans rfl, (blk_cell BK145.out 7).trans rfl, (blk_cell BK145.out 8).trans rfl, (blk_cell BK145.out 9).trans rfl⟩ (fun hHeld => ?_)
              clear hK K
              refine norm_ (a' := ?_) ?_ ?_
              rotate_left
              ·show Act.put _ (some 19) _ = _
               simp only [Act.put, List.setIfInBounds_toArray, List.set_cons_zero, List.set_cons_succ, i64_w, i32_w]
               rfl
              refine pure_ (i := 4) (N := some 20) (v := ?_) (a' := ?_) #[true, true, true, true, true, true, true, true, true, true, false, false, true, true, true, false, false, true, true, false, false, true, true, true, false, false, true, true, true, false, false, true, true, false, false, true, true, true, false, false, true, true, true, false, false, false] rfl rfl (any_of HT_.out (by kernel_rfl)) (fun _ _ _ h => h) (Or.inl ⟨by rfl, ?_⟩) ?_ ?_
              rotate_left
              ·intro w'
               go_simp
               with_reducible rfl
              rotate_left
              ·simp only [Act.put, List.setIfInBounds_toArray, List.set_cons_zero, List.set_cons_succ, i64_w, i32_w]
               rfl
              refine one_ (i := 10) (N := some 26) #[true, true, true, true, true, true, true, true, true, true, true, false, true, true, true, false, false, true, true, false, false, true, true, true, false, false, true, true, true, false, false, true, true, false, false, true, true, true, false, false, true, true, true, false, false, false] rfl rfl (one_of HT_.out (by kernel_rfl)) (by decide) (fun K hK => ?_)
              refine goes_ Tryd.func34 (by kernel_rfl) rfl #[.int .u64 (IntKind.u64.wrap (wrap64 (20 + (a0_9.size : Int)))), .int .i64 2] (by first | rfl | exact wanted_on rfl rfl rfl (by first | rfl | (simp [*]; done) | (simp [*, IntKind.wrap_u32]; done))) rfl rfl (by (try simp only [List.map_toArray, List.map_cons, List.map_nil]); first | done | rfl | (simp only [List.length_drop, List.length_take]; rfl)) ?_
              with_reducible refine (gangwayref01_Bytes.calls kj6 (IntKind.u64.wrap (wrap64 (20 + (a0_9.size : Int)))) 2 t147 _ A12.out).mono ?_
              rintro e w30 ⟨rfl, hb⟩
              refine ⟨_, rfl, ?_⟩
              have n0_ := Aside0.mk (blk_below (g := gb145) (o := .cells #[.int .i64 a0_0, .int .i64 a0_1, .bool a0_2, .bool a0_3, .int .i64 a0_4, .int .i64 a0_5, .int .i64 a0_6, .int .u32 a0_7, .int .u32 a0_8, .string a0_9] 24 (0, 0)) (by (with_reducible repeat (first | refine blk_drewN ?_ _ | refine blk_drew ?_ | refine blk_alloc ?_ _)); exact BK145.out) hb)
              have n1_ := Aside0.mk (below_step (by repeat (first | (with_reducible first | exact HB.out | apply below_alloc | apply pw_below_drewN | apply below_drew1 | refine below_set ?_ GE145.out) | exact HB.out)) hb)
              clear BK145
              clear HB
              have BK145 := n0_
              have HB := n1_
              clear n0_ n1_
              (try clear hb)
              (try clear hb2)
              (try clear hk)
              (try clear hi)
              refine hK.out _ _ ⟨(blk_cell BK145.out 0).trans rfl, (blk_cell BK145.out 1).trans rfl, (blk_cell BK145.out 2).trans rfl, (blk_cell BK145.out 3).trans rfl, (blk_cell BK145.out 4).trans rfl, (blk_cell BK145.out 5).trans rfl, (blk_cell BK145.out 6).trans rfl, (blk_cell BK145.out 7).trans rfl, (blk_cell BK145.out 8).trans rfl, (blk_cell BK145.out 9).trans rfl⟩ (fun hHeld => ?_)
              clear hK K
              refine norm_ (a' := ?_) ?_ ?_
              rotate_left
              ·show Act.put _ (some 26) _ = _
               simp only [Act.put, List.setIfInBounds_toArray, List.set_cons_zero, List.set_cons_succ, i64_w, i32_w]
               rfl
              refine pure_ (i := 11) (N := some 27) (v := ?_) (a' := ?_) #[true, true, true, true, true, true, true, true, true, true, true, true, true, true, true, false, false, true, true, false, false, true, true, true, false, false, true, true, true, false, false, true, true, false, false, true, true, true, false, false, true, true, true, false, false, false] rfl rfl (any_of HT_.out (by kernel_rfl)) (fun _ _ _ h => h) (Or.inl ⟨by rfl, ?_⟩) ?_ ?_
              rotate_left
              ·intro w'
               go_simp
               first | with_reducible rfl | (rw [if_neg (by have hz0_ : (⟨#[69]⟩ : ByteArray).size = 1 := rfl; (try simp only [decide_eq_true_eq, ByteArray.size_append, ByteArray.size_extract, eq_iff_iff, iff_true, iff_false, Nat.not_lt] at *); omega)]; try with_reducible rfl)
              rotate_left
              ·simp only [Act.put, List.setIfInBounds_toArray, List.set_cons_zero, List.set_cons_succ, i64_w, i32_w]
               rfl
              refine one_ (i := 15) (N := some 31) #[true, true, true, true, true, true, true, true, true, true, true, true, true, true, true, true, false, true, true, false, false, true, true, true, false, false, true, true, true, false, false, true, true, false, false, true, true, true, false, false, true, true, true, false, false, false] rfl rfl (one_of HT_.out (by kernel_rfl)) (by decide) (fun K hK => ?_)
              refine goes_ Tryd.func34 (by kernel_rfl) rfl #[.int .u64 (IntKind.u64.wrap (a0_1)), .int .i64 2] (by first | rfl | exact wanted_on rfl rfl rfl (by first | rfl | (simp [*]; done) | (simp [*, IntKind.wrap_u32]; done))) rfl rfl (by (try simp only [List.map_toArray, List.map_cons, List.map_nil]); first | done | rfl | (simp only [List.length_drop, List.length_take]; rfl)) ?_
              with_reducible refine (gangwayref01_Bytes.calls kj6 (IntKind.u64.wrap (a0_1)) 2 t148 _ A14.out).mono ?_
              rintro e w31 ⟨rfl, hb⟩
              refine ⟨_, rfl, ?_⟩
              have n0_ := Aside0.mk (blk_below (g := gb145) (o := .cells #[.int .i64 a0_0, .int .i64 a0_1, .bool a0_2, .bool a0_3, .int .i64 a0_4, .int .i64 a0_5, .int .i64 a0_6, .int .u32 a0_7, .int .u32 a0_8, .string a0_9] 24 (0, 0)) (by (with_reducible repeat (first | refine blk_drewN ?_ _ | refine blk_drew ?_ | refine blk_alloc ?_ _)); exact BK145.out) hb)
              have n1_ := Aside0.mk (below_step (by repeat (first | (with_reducible first | exact HB.out | apply below_alloc | apply pw_below_drewN | apply below_drew1 | refine below_set ?_ GE145.out) | exact HB.out)) hb)
              clear BK145
              clear HB
              have BK145 := n0_
              have HB := n1_
              clear n0_ n1_
              (try clear hb)
              (try clear hb2)
              (try clear hk)
              (try clear hi)
              refine hK.out _ _ ⟨(blk_cell BK145.out 0).trans rfl, (blk_cell BK145.out 1).trans rfl, (blk_cell BK145.out 2).trans rfl, (blk_cell BK145.out 3).trans rfl, (blk_cell BK145.out 4).trans rfl, (blk_cell BK145.out 5).trans rfl, (blk_cell BK145.out 6).trans rfl, (blk_cell BK145.out 7).trans rfl, (blk_cell BK145.out 8).trans rfl, (blk_cell BK145.out 9).trans rfl⟩ (fun hHeld => ?_)
              clear hK K
              refine norm_ (a' := ?_) ?_ ?_
              rotate_left
              ·show Act.put _ (some 31) _ = _
               simp only [Act.put, List.setIfInBounds_toArray, List.set_cons_zero, List.set_cons_succ, i64_w, i32_w]
               rfl
              refine pure_ (i := 16) (N := some 32) (v := ?_) (a' := ?_) #[true, true, true, true, true, true, true, true, true, true, true, true, true, true, true, true, true, true, true, false, false, true, true, true, false, false, true, true, true, false, false, true, true, false, false, true, true, true, false, false, true, true, true, false, false, false] rfl rfl (any_of HT_.out (by kernel_rfl)) (fun _ _ _ h => h) (Or.inl ⟨by rfl, ?_⟩) ?_ ?_
              rotate_left
              ·intro w'
               go_simp
               first | with_reducible rfl | (rw [if_neg (by have hz0_ : (⟨#[69]⟩ : ByteArray).size = 1 := rfl; (try simp only [decide_eq_true_eq, ByteArray.size_append, ByteArray.size_extract, eq_iff_iff, iff_true, iff_false, Nat.not_lt] at *); omega)]; try with_reducible rfl)
              rotate_left
              ·simp only [Act.put, List.setIfInBounds_toArray, List.set_cons_zero, List.set_cons_succ, i64_w, i32_w]
               rfl
              refine one_ (i := 19) (N := some 35) #[true, true, true, true, true, true, true, true, true, true, true, true, true, true, true, true, true, true, true, true, false, true, true, true, false, false, true, true, true, false, false, true, true, false, false, true, true, true, false, false, true, true, true, false, false, false] rfl rfl (one_of HT_.out (by kernel_rfl)) (by decide) (fun K hK => ?_)
              refine goes_ Tryd.func34 (by kernel_rfl) rfl #[.int .u64 (IntKind.u64.wrap (x5_6)), .int .i64 2] (by first | rfl | exact wanted_on rfl rfl rfl (by first | rfl | (simp [*]; done) | (simp [*, IntKind.wrap_u32]; done))) rfl rfl (by (try simp only [List.map_toArray, List.map_cons, List.map_nil]); first | done | rfl | (simp only [List.length_drop, List.length_take]; rfl)) ?_
              with_reducible refine (gangwayref01_Bytes.calls kj6 (IntKind.u64.wrap (x5_6)) 2 t149 _ A16.out).mono ?_
              rintro e w32 ⟨rfl, hb⟩
              refine ⟨_, rfl, ?_⟩
              have n0_ := Aside0.mk (blk_below (g := gb145) (o := .cells #[.int .i64 a0_0, .int .i64 a0_1, .bool a0_2, .bool a0_3, .int .i64 a0_4, .int .i64 a0_5, .int .i64 a0_6, .int .u32 a0_7, .int .u32 a0_8, .string a0_9] 24 (0, 0)) (by (with_reducible repeat (first | refine blk_drewN ?_ _ | refine blk_drew ?_ | refine blk_alloc ?_ _)); exact BK145.out) hb)
              have n1_ := Aside0.mk (below_step (by repeat (first | (with_reducible first | exact HB.out | apply below_alloc | apply pw_below_drewN | apply below_drew1 | refine below_set ?_ GE145.out) | exact HB.out)) hb)
              clear BK145
              clear HB
              have BK145 := n0_
              have HB := n1_
              clear n0_ n1_
              (try clear hb)
              (try clear hb2)
              (try clear hk)
              (try clear hi)
              refine hK.out _ _ ⟨(blk_cell BK145.out 0).trans rfl, (blk_cell BK145.out 1).trans rfl, (blk_cell BK145.out 2).trans rfl, (blk_cell BK145.out 3).trans rfl, (blk_cell BK145.out 4).trans rfl, (blk_cell BK145.out 5).trans rfl, (blk_cell BK145.out 6).trans rfl, (blk_cell BK145.out 7).trans rfl, (blk_cell BK145.out 8).trans rfl, (blk_cell BK145.out 9).trans rfl⟩ (fun hHeld => ?_)
              clear hK K
              refine norm_ (a' := ?_) ?_ ?_
              rotate_left
              ·show Act.put _ (some 35) _ = _
               simp only [Act.put, List.setIfInBounds_toArray, List.set_cons_zero, List.set_cons_succ, i64_w, i32_w]
               rfl
              refine pure_ (i := 20) (N := some 36) (v := ?_) (a' := ?_) #[true, true, true, true, true, true, true, true, true, true, true, true, true, true, true, true, true, true, true, true, true, true, true, true, false, false, true, true, true, false, false, true, true, false, false, true, true, true, false, false, true, true, true, false, false, false] rfl rfl (any_of HT_.out (by kernel_rfl)) (fun _ _ _ h => h) (Or.inl ⟨by rfl, ?_⟩) ?_ ?_
              rotate_left
              ·intro w'
               go_simp
               first | with_reducible rfl | (rw [if_neg (by have hz0_ : (⟨#[69]⟩ : ByteArray).size = 1 := rfl; (try simp only [decide_eq_true_eq, ByteArray.size_append, ByteArray.size_extract, eq_iff_iff, iff_true, iff_false, Nat.not_lt] at *); omega)]; try with_reducible rfl)
              rotate_left
              ·simp only [Act.put, List.setIfInBounds_toArray, List.set_cons_zero, List.set_cons_succ, i64_w, i32_w]
               rfl
              refine one_ (i := 24) (N := some 40) #[true, true, true, true, true, true, true, true, true, true, true, true, true, true, true, true, true, true, true, true, true, true, true, true, true, false, true, true, true, false, false, true, true, false, false, true, true, true, false, false, true, true, true, false, false, false] rfl rfl (one_of HT_.out (by kernel_rfl)) (by decide) (fun K hK => ?_)
              refine goes_ Tryd.func34 (by kernel_rfl) rfl #[.int .u64 (IntKind.u64.wrap (a0_5)), .int .i64 1] (by first | rfl | exact wanted_on rfl rfl rfl (by first | rfl | (simp [*]; done) | (simp [*, IntKind.wrap_u32]; done))) rfl rfl (by (try simp only [List.map_toArray, List.map_cons, List.map_nil]); first | done | rfl | (simp only [List.length_drop, List.length_take]; rfl)) ?_
              with_reducible refine (gangwayref01_Bytes.calls kj6 (IntKind.u64.wrap (a0_5)) 1 t150 _ A18.out).mono ?_
              rintro e w33 ⟨rfl, hb⟩
              refine ⟨_, rfl, ?_⟩
              have n0_ := Aside0.mk (blk_below (g := gb145) (o := .cells #[.int .i64 a0_0, .int .i64 a0_1, .bool a0_2, .bool a0_3, .int .i64 a0_4, .int .i64 a0_5, .int .i64 a0_6, .int .u32 a0_7, .int .u32 a0_8, .string a0_9] 24 (0, 0)) (by (with_reducible repeat (first | refine blk_drewN ?_ _ | refine blk_drew ?_ | refine blk_alloc ?_ _)); exact BK145.out) hb)
              have n1_ := Aside0.mk (below_step (by repeat (first | (with_reducible first | exact HB.out | apply below_alloc | apply pw_below_drewN | apply below_drew1 | refine below_set ?_ GE145.out) | exact HB.out)) hb)
              clear BK145
              clear HB
              have BK145 := n0_
              have HB := n1_
              clear n0_ n1_
              (try clear hb)
              (try clear hb2)
              (try clear hk)
              (try clear hi)
              refine hK.out _ _ ⟨(blk_cell BK145.out 0).trans rfl, (blk_cell BK145.out 1).trans rfl, (blk_cell BK145.out 2).trans rfl, (blk_cell BK145.out 3).trans rfl, (blk_cell BK145.out 4).trans rfl, (blk_cell BK145.out 5).trans rfl, (blk_cell BK145.out 6).trans rfl, (blk_cell BK145.out 7).trans rfl, (blk_cell BK145.out 8).trans rfl, (blk_cell BK145.out 9).trans rfl⟩ (fun hHeld => ?_)
              clear hK K
              refine norm_ (a' := ?_) ?_ ?_
              rotate_left
              ·show Act.put _ (some 40) _ = _
               simp only [Act.put, List.setIfInBounds_toArray, List.set_cons_zero, List.set_cons_succ, i64_w, i32_w]
               rfl
              refine pure_ (i := 25) (N := some 41) (v := ?_) (a' := ?_) #[true, true, true, true, true, true, true, true, true, true, true, true, true, true, true, true, true, true, true, true, true, true, true, true, true, true, true, true, true, false, false, true, true, false, false, true, true, true, false, false, true, true, true, false, false, false] rfl rfl (any_of HT_.out (by kernel_rfl)) (fun _ _ _ h => h) (Or.inl ⟨by rfl, ?_⟩) ?_ ?_
              rotate_left
              ·intro w'
               go_simp
               first | with_reducible rfl | (rw [if_neg (by have hz0_ : (⟨#[69]⟩ : ByteArray).size = 1 := rfl; (try simp only [decide_eq_true_eq, ByteArray.size_append, ByteArray.size_extract, eq_iff_iff, iff_true, iff_false, Nat.not_lt] at *); omega)]; try with_reducible rfl)
              rotate_left
              ·simp only [Act.put, List.setIfInBounds_toArray, List.set_cons_zero, List.set_cons_succ, i64_w, i32_w]
               rfl
              refine one_ (i := 29) (N := some 45) #[true, true, true, true, true, true, true, true, true, true, true, true, true, true, true, true, true, true, true, true, true, true, true, true, true, true, true, true, true, true, false, true, true, false, false, true, true, true, false, false, true, true, true, false, false, false] rfl rfl (one_of HT_.out (by kernel_rfl)) (by decide) (fun K hK => ?_)
              refine goes_ Tryd.func34 (by kernel_rfl) rfl #[.int .u64 (IntKind.u64.wrap (a0_6)), .int .i64 1] (by first | rfl | exact wanted_on rfl rfl rfl (by first | rfl | (simp [*]; done) | (simp [*, IntKind.wrap_u32]; done))) rfl rfl (by (try simp only [List.map_toArray, List.map_cons, List.map_nil]); first | done | rfl | (simp only [List.length_drop, List.length_take]; rfl)) ?_
              with_reducible refine (gangwayref01_Bytes.calls kj6 (IntKind.u64.wrap (a0_6)) 1 t151 _ A20.out).mono ?_
              rintro e w34 ⟨rfl, hb⟩
              refine ⟨_, rfl, ?_⟩
              have n0_ := Aside0.mk (blk_below (g := gb145) (o := .cells #[.int .i64 a0_0, .int .i64 a0_1, .bool a0_2, .bool a0_3, .int .i64 a0_4, .int .i64 a0_5, .int .i64 a0_6, .int .u32 a0_7, .int .u32 a0_8, .string a0_9] 24 (0, 0)) (by (with_reducible repeat (first | refine blk_drewN ?_ _ | refine blk_drew ?_ | refine blk_alloc ?_ _)); exact BK145.out) hb)
              have n1_ := Aside0.mk (below_step (by repeat (first | (with_reducible first | exact HB.out | apply below_alloc | apply pw_below_drewN | apply below_drew1 | refine below_set ?_ GE145.out) | exact HB.out)) hb)
              clear BK145
              clear HB
              have BK145 := n0_
              have HB := n1_
              clear n0_ n1_
              (try clear hb)
              (try clear hb2)
              (try clear hk)
              (try clear hi)
              refine hK.out _ _ ⟨(blk_cell BK145.out 0).trans rfl, (blk_cell BK145.out 1).trans rfl, (blk_cell BK145.out 2).trans rfl, (blk_cell BK145.out 3).trans rfl, (blk_cell BK145.out 4).trans rfl, (blk_cell BK145.out 5).trans rfl, (blk_cell BK145.out 6).trans rfl, (blk_cell BK145.out 7).trans rfl, (blk_cell BK145.out 8).trans rfl, (blk_cell BK145.out 9).trans rfl⟩ (fun hHeld => ?_)
              clear hK K
              refine norm_ (a' := ?_) ?_ ?_
              rotate_left
              ·show Act.put _ (some 45) _ = _
               simp only [Act.put, List.setIfInBounds_toArray, List.set_cons_zero, List.set_cons_succ, i64_w, i32_w]
               rfl
              refine pure_ (i := 30) (N := some 46) (v := ?_) (a' := ?_) #[true, true, true, true, true, true, true, true, true, true, true, true, true, true, true, true, true, true, true, true, true, true, true, true, true, true, true, true, true, true, true, true, true, false, false, true, true, true, false, false, true, true, true, false, false, false] rfl rfl (any_of HT_.out (by kernel_rfl)) (fun _ _ _ h => h) (Or.inl ⟨by rfl, ?_⟩) ?_ ?_
              rotate_left
              ·intro w'
               go_simp
               first | with_reducible rfl | (rw [if_neg (by have hz0_ : (⟨#[69]⟩ : ByteArray).size = 1 := rfl; (try simp only [decide_eq_true_eq, ByteArray.size_append, ByteArray.size_extract, eq_iff_iff, iff_true, iff_false, Nat.not_lt] at *); omega)]; try with_reducible rfl)
              rotate_left
              ·simp only [Act.put, List.setIfInBounds_toArray, List.set_cons_zero, List.set_cons_succ, i64_w, i32_w]
               rfl
              refine one_ (i := 33) (N := some 49) #[true, true, true, true, true, true, true, true, true, true, true, true, true, true, true, true, true, true, true, true, true, true, true, true, true, true, true, true, true, true, true, true, true, true, false, true, true, true, false, false, true, true, true, false, false, false] rfl rfl (one_of HT_.out (by kernel_rfl)) (by decide) (fun K hK => ?_)
              refine goes_ Tryd.func34 (by kernel_rfl) rfl #[.int .u64 (IntKind.u64.wrap (a1)), .int .i64 2] (by first | rfl | exact wanted_on rfl rfl rfl (by first | rfl | (simp [*]; done) | (simp [*, IntKind.wrap_u32]; done))) rfl rfl (by (try simp only [List.map_toArray, List.map_cons, List.map_nil]); first | done | rfl | (simp only [List.length_drop, List.length_take]; rfl)) ?_
              with_reducible refine (gangwayref01_Bytes.calls kj6 (IntKind.u64.wrap (a1)) 2 t152 _ A22.out).mono ?_
              rintro e w35 ⟨rfl, hb⟩
              refine ⟨_, rfl, ?_⟩
              have n0_ := Aside0.mk (blk_below (g := gb145) (o := .cells #[.int .i64 a0_0, .int .i64 a0_1, .bool a0_2, .bool a0_3, .int .i64 a0_4, .int .i64 a0_5, .int .i64 a0_6, .int .u32 a0_7, .int .u32 a0_8, .string a0_9] 24 (0, 0)) (by (with_reducible repeat (first | refine blk_drewN ?_ _ | refine blk_drew ?_ | refine blk_alloc ?_ _)); exact BK145.out) hb)
              have n1_ := Aside0.mk (below_step (by repeat (first | (with_reducible first | exact HB.out | apply below_alloc | apply pw_below_drewN | apply below_drew1 | refine below_set ?_ GE145.out) | exact HB.out)) hb)
              clear BK145
              clear HB
              have BK145 := n0_
              have HB := n1_
              clear n0_ n1_
              (try clear hb)
              (try clear hb2)
              (try clear hk)
              (try clear hi)
              refine hK.out _ _ ⟨(blk_cell BK145.out 0).trans rfl, (blk_cell BK145.out 1).trans rfl, (blk_cell BK145.out 2).trans rfl, (blk_cell BK145.out 3).trans rfl, (blk_cell BK145.out 4).trans rfl, (blk_cell BK145.out 5).trans rfl, (blk_cell BK145.out 6).trans rfl, (blk_cell BK145.out 7).trans rfl, (blk_cell BK145.out 8).trans rfl, (blk_cell BK145.out 9).trans rfl⟩ (fun hHeld => ?_)
              clear hK K
              refine norm_ (a' := ?_) ?_ ?_
              rotate_left
              ·show Act.put _ (some 49) _ = _
               simp only [Act.put, List.setIfInBounds_toArray, List.set_cons_zero, List.set_cons_succ, i64_w, i32_w]
               rfl
              refine pure_ (i := 34) (N := some 50) (v := ?_) (a' := ?_) #[true, true, true, true, true, true, true, true, true, true, true, true, true, true, true, true, true, true, true, true, true, true, true, true, true, true, true, true, true, true, true, true, true, true, true, true, true, true, false, false, true, true, true, false, false, false] rfl rfl (any_of HT_.out (by kernel_rfl)) (fun _ _ _ h => h) (Or.inl ⟨by rfl, ?_⟩) ?_ ?_
              rotate_left
              ·intro w'
               go_simp
               first | with_reducible rfl | (rw [if_neg (by have hz0_ : (⟨#[69]⟩ : ByteArray).size = 1 := rfl; (try simp only [decide_eq_true_eq, ByteArray.size_append, ByteArray.size_extract, eq_iff_iff, iff_true, iff_false, Nat.not_lt] at *); omega)]; try with_reducible rfl)
              rotate_left
              ·simp only [Act.put, List.setIfInBounds_toArray, List.set_cons_zero, List.set_cons_succ, i64_w, i32_w]
               rfl
              refine one_ (i := 38) (N := some 54) #[true, true, true, true, true, true, true, true, true, true, true, true, true, true, true, true, true, true, true, true, true, true, true, true, true, true, true, true, true, true, true, true, true, true, true, true, true, true, true, false, true, true, true, false, false, false] rfl rfl (one_of HT_.out (by kernel_rfl)) (by decide) (fun K hK => ?_)
              refine goes_ Tryd.func34 (by kernel_rfl) rfl #[.int .u64 (IntKind.u64.wrap (a0_7)), .int .i64 4] (by first | rfl | exact wanted_on rfl rfl rfl (by first | rfl | (simp [*]; done) | (simp [*, IntKind.wrap_u32]; done))) rfl rfl (by (try simp only [List.map_toArray, List.map_cons, List.map_nil]); first | done | rfl | (simp only [List.length_drop, List.length_take]; rfl)) ?_
              with_reducible refine (gangwayref01_Bytes.calls kj6 (IntKind.u64.wrap (a0_7)) 4 t153 _ A24.out).mono ?_
              rintro e w36 ⟨rfl, hb⟩
              refine ⟨_, rfl, ?_⟩
              have n0_ := Aside0.mk (blk_below (g := gb145) (o := .cells #[.int .i64 a0_0, .int .i64 a0_1, .bool a0_2, .bool a0_3, .int .i64 a0_4, .int .i64 a0_5, .int .i64 a0_6, .int .u32 a0_7, .int .u32 a0_8, .string a0_9] 24 (0, 0)) (by (with_reducible repeat (first | refine blk_drewN ?_ _ | refine blk_drew ?_ | refine blk_alloc ?_ _)); exact BK145.out) hb)
              have n1_ := Aside0.mk (below_step (by repeat (first | (with_reducible first | exact HB.out | apply below_alloc | apply pw_below_drewN | apply below_drew1 | refine below_set ?_ GE145.out) | exact HB.out)) hb)
              clear BK145
              clear HB
              have BK145 := n0_
              have HB := n1_
              clear n0_ n1_
              (try clear hb)
              (try clear hb2)
              (try clear hk)
              (try clear hi)
              refine hK.out _ _ ⟨(blk_cell BK145.out 0).trans rfl, (blk_cell BK145.out 1).trans rfl, (blk_cell BK145.out 2).trans rfl, (blk_cell BK145.out 3).trans rfl, (blk_cell BK145.out 4).trans rfl, (blk_cell BK145.out 5).trans rfl, (blk_cell BK145.out 6).trans rfl, (blk_cell BK145.out 7).trans rfl, (blk_cell BK145.out 8).trans rfl, (blk_cell BK145.out 9).trans rfl⟩ (fun hHeld => ?_)
              clear hK K
              refine norm_ (a' := ?_) ?_ ?_
              rotate_left
              ·show Act.put _ (some 54) _ = _
               simp only [Act.put, List.setIfInBounds_toArray, List.set_cons_zero, List.set_cons_succ, i64_w, i32_w]
               rfl
              refine pure_ (i := 39) (N := some 55) (v := ?_) (a' := ?_) #[true, true, true, true, true, true, true, true, true, true, true, true, true, true, true, true, true, true, true, true, true, true, true, true, true, true, true, true, true, true, true, true, true, true, true, true, true, true, true, true, true, true, true, false, false, false] rfl rfl (any_of HT_.out (by kernel_rfl)) (fun _ _ _ h => h) (Or.inl ⟨by rfl, ?_⟩) ?_ ?_
              rotate_left
              ·intro w'
               go_simp
               first | with_reducible rfl | (rw [if_neg (by have hz0_ : (⟨#[69]⟩ : ByteArray).size = 1 := rfl; (try simp only [decide_eq_true_eq, ByteArray.size_append, ByteArray.size_extract, eq_iff_iff, iff_true, iff_false, Nat.not_lt] at *); omega)]; try with_reducible rfl)
              rotate_left
              ·simp only [Act.put, List.setIfInBounds_toArray, List.set_cons_zero, List.set_cons_succ, i64_w, i32_w]
               rfl
              refine one_ (i := 43) (N := some 59) #[true, true, true, true, true, true, true, true, true, true, true, true, true, true, true, true, true, true, true, true, true, true, true, true, true, true, true, true, true, true, true, true, true, true, true, true, true, true, true, true, true, true, true, true, false, false] rfl rfl (one_of HT_.out (by kernel_rfl)) (by decide) (fun K hK => ?_)
              refine goes_ Tryd.func34 (by kernel_rfl) rfl #[.int .u64 (IntKind.u64.wrap (a0_8)), .int .i64 4] (by first | rfl | exact wanted_on rfl rfl rfl (by first | rfl | (simp [*]; done) | (simp [*, IntKind.wrap_u32]; done))) rfl rfl (by (try simp only [List.map_toArray, List.map_cons, List.map_nil]); first | done | rfl | (simp only [List.length_drop, List.length_take]; rfl)) ?_
              with_reducible refine (gangwayref01_Bytes.calls kj6 (IntKind.u64.wrap (a0_8)) 4 t154 _ A26.out).mono ?_
              rintro e w37 ⟨rfl, hb⟩
              refine ⟨_, rfl, ?_⟩
              have n0_ := Aside0.mk (blk_below (g := gb145) (o := .cells #[.int .i64 a0_0, .int .i64 a0_1, .bool a0_2, .bool a0_3, .int .i64 a0_4, .int .i64 a0_5, .int .i64 a0_6, .int .u32 a0_7, .int .u32 a0_8, .string a0_9] 24 (0, 0)) (by (with_reducible repeat (first | refine blk_drewN ?_ _ | refine blk_drew ?_ | refine blk_alloc ?_ _)); exact BK145.out) hb)
              have n1_ := Aside0.mk (below_step (by repeat (first | (with_reducible first | exact HB.out | apply below_alloc | apply pw_below_drewN | apply below_drew1 | refine below_set ?_ GE145.out) | exact HB.out)) hb)
              clear BK145
              clear HB
              have BK145 := n0_
              have HB := n1_
              clear n0_ n1_
              (try clear hb)
              (try clear hb2)
              (try clear hk)
              (try clear hi)
              refine hK.out _ _ ⟨(blk_cell BK145.out 0).trans rfl, (blk_cell BK145.out 1).trans rfl, (blk_cell BK145.out 2).trans rfl, (blk_cell BK145.out 3).trans rfl, (blk_cell BK145.out 4).trans rfl, (blk_cell BK145.out 5).trans rfl, (blk_cell BK145.out 6).trans rfl, (blk_cell BK145.out 7).trans rfl, (blk_cell BK145.out 8).trans rfl, (blk_cell BK145.out 9).trans rfl⟩ (fun hHeld => ?_)
              clear hK K
              refine norm_ (a' := ?_) ?_ ?_
              rotate_left
              ·show Act.put _ (some 59) _ = _
               simp only [Act.put, List.setIfInBounds_toArray, List.set_cons_zero, List.set_cons_succ, i64_w, i32_w]
               rfl
              refine pure_ (i := 44) (N := some 60) (v := ?_) (a' := ?_) #[true, true, true, true, true, true, true, true, true, true, true, true, true, true, true, true, true, true, true, true, true, true, true, true, true, true, true, true, true, true, true, true, true, true, true, true, true, true, true, true, true, true, true, true, true, false] rfl rfl (any_of HT_.out (by kernel_rfl)) (fun _ _ _ h => h) (Or.inl ⟨by rfl, ?_⟩) ?_ ?_
              rotate_left
              ·intro w'
               go_simp
               first | with_reducible rfl | (rw [if_neg (by have hz0_ : (⟨#[69]⟩ : ByteArray).size = 1 := rfl; (try simp only [decide_eq_true_eq, ByteArray.size_append, ByteArray.size_extract, eq_iff_iff, iff_true, iff_false, Nat.not_lt] at *); omega)]; try with_reducible rfl)
              rotate_left
              ·simp only [Act.put, List.setIfInBounds_toArray, List.set_cons_zero, List.set_cons_succ, i64_w, i32_w]
               rfl
              refine pure_ (i := 45) (N := some 4) (v := ?_) (a' := ?_) #[true, true, true, true, true, true, true, true, true, true, true, true, true, true, true, true, true, true, true, true, true, true, true, true, true, true, true, true, true, true, true, true, true, true, true, true, true, true, true, true, true, true, true, true, true, true] rfl rfl (any_of HT_.out (by kernel_rfl)) (fun _ _ _ h => h) (Or.inl ⟨by rfl, ?_⟩) ?_ ?_
              rotate_left
              ·intro w'
               go_simp
               with_reducible rfl
              rotate_left
              ·simp only [Act.put, List.setIfInBounds_toArray, List.set_cons_zero, List.set_cons_succ, i64_w, i32_w]
               rfl
              refine done_ (done_of HT_.out (by kernel_rfl)) ?_
              try go_wp2
              go_ret
              exact ⟨by first | rfl | (simp [errW_none, errW_some] <;> rfl) | (simp [*, errW_none, errW_some] <;> rfl) | (simp [*, IntKind.wrap_u32]; done) | (simp_all [IntKind.wrap_u32]; done), by repeat (first | (with_reducible first | exact HB.out | apply below_alloc | apply pw_below_drewN | apply below_drew1 | refine below_set ?_ GE145.out) | exact HB.out)⟩
             ·rw [if_neg c27] at H
              exact absurd H (by simp)
            ·rw [if_neg c25] at H
             exact absurd H (by simp)
           ·rw [if_neg c23] at H
            exact absurd H (by simp)
          ·rw [if_neg c21] at H
           exact absurd H (by simp)
         ·rw [if_neg c19] at H
          exact absurd H (by simp)
        ·rw [if_neg c17] at H
         exact absurd H (by simp)
       ·rw [if_neg c15] at H
        exact absurd H (by simp)
      ·rw [if_neg c13] at H
       exact absurd H (by simp)
     ·rw [if_neg c11] at H
      exact absurd H (by simp)

end Go.Proofs.YtigagipeaheclaaDoor.P
