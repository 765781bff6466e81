-- squeezed
-- Written by wip/hprint.py (this session's program) through the kit's print program; hand contracts are marked 'by hand'.
import Derived.Test.YtigagipeaheclaaDoorPx0
import Derived.Test.YtigagipeaheclaaDoorPx12
import Derived.Test.YtigagipeaheclaaDoorPx13
namespace Go.Proofs.YtigagipeaheclaaDoor.P
open Go.RowKit Go.Proofs.YtigagipeaheclaaDoorW.PrintWords Go.Proofs.YtigagipeaheclaaDoorW.PrintLast Go.Proofs.YtigagipeaheclaaDoorW.PrintMore
attribute [local go_sem] max2_int min2_int max_two min_two max_three min_three max_four min_four   -- for this text's walks alone
set_option linter.unusedVariables false
set_option linter.unusedSimpArgs false

/-! ### inet_read: function 28 -/
def inet_read.j0 : Nat → ByteArray → Int → Int → Bool → Option (Int × Int × Bool × Bool × Int × Int × Int × Int × Int × ByteArray × Option Int)
 | 0, _, _, _, _ => none
 | k + 1, x0, x4, x5, x38 => if x38 = true then (some (0, 0, false, false, 0, 0, 0, 0, 0, (⟨#[]⟩ : ByteArray), some 61)) else (if x4 > (x0.size : Int) then (some (0, 0, false, false, 0, 0, 0, 0, 0, (⟨#[]⟩ : ByteArray), some 60)) else ((octets_Get.f k x0 12 4).bind fun bt175 => ((octets_Get.f k x0 16 4).bind fun bt177 => (if 1 < (x0.size : Int) then ((inet_get.f x0 4).bind fun t179 => (if 8 < (x0.size : Int) then (if 9 < (x0.size : Int) then (if 20 ≤ x4 then (if x4 ≤ (x0.size : Int) then (some (wrap64 (bt x0 1), t179, ((Go.bits .and .i64 x5 16384) != 0), ((Go.bits .and .i64 x5 8192) != 0), Int.tmod x5 8192, wrap64 (bt x0 8), wrap64 (bt x0 9), (bt175.1) % 4294967296, (bt177.1) % 4294967296, x0.extract 20 (x4 : Int).toNat, none)) else (none)) else (none)) else (none)) else (none))) else (none)))))
def inet_read.f (k : Nat) (a0 : ByteArray) : Option (Int × Int × Bool × Bool × Int × Int × Int × Int × Int × ByteArray × Option Int) := if (a0.size : Int) < 20 then (some (0, 0, false, false, 0, 0, 0, 0, 0, (⟨#[]⟩ : ByteArray), some 60)) else (if 0 < (a0.size : Int) then (if (bt a0 0) = 69 then (if 0 ≤ 20 then (if 20 ≤ (a0.size : Int) then ((csum_Right.f k (([a0.extract 0 20] : List ByteArray))).bind fun t172 => (if t172 = true then ((inet_get.f a0 2).bind fun t173 => ((inet_get.f a0 6).bind fun t174 => (if t173 < 20 then (inet_read.j0 k a0 t173 t174 true) else (inet_read.j0 k a0 t173 t174 ((Go.bits .and .i64 t174 32768) != 0))))) else (some (0, 0, false, false, 0, 0, 0, 0, 0, (⟨#[]⟩ : ByteArray), some 62)))) else (none)) else (none)) else (some (0, 0, false, false, 0, 0, 0, 0, 0, (⟨#[]⟩ : ByteArray), some 61))) else (none))
theorem inet_read.mono_l : ∀ k, (∀ y0 y1 y2 y3, LeO (inet_read.j0 k y0 y1 y2 y3) (inet_read.j0 (k + 1) y0 y1 y2 y3))
 | 0 => fun _ _ _ _ r h => by simp [inet_read.j0] at h
 | k + 1 => by
  have ih0 := inet_read.mono_l k
  ·intro y0 y1 y2 y3
   unfold inet_read.j0
   repeat' first
   | (with_reducible exact ih0 _ _ _ _)
   | (with_reducible exact csum_Right.mono _ _)
   | (with_reducible exact octets_Get.mono _ _ _ _)
   | (with_reducible exact LeO.refl _)
   | (with_reducible exact LeO.none _)
   | (with_reducible refine LeO.ite ?_ ?_)
   | (with_reducible refine LeO.bind ?_ (fun _ => ?_))
   | exact ih0 _ _ _ _
   | exact csum_Right.mono _ _
   | exact octets_Get.mono _ _ _ _
   | exact LeO.none _
   | refine LeO.ite ?_ ?_
   | refine LeO.bind ?_ (fun _ => ?_)
theorem inet_read.mono : ∀ a0 k, LeO (inet_read.f k a0) (inet_read.f (k + 1) a0) := by
 intro a0 k
 have ih0 := inet_read.mono_l k
 unfold inet_read.f
 repeat' first
   | (with_reducible exact ih0 _ _ _ _)
   | (with_reducible exact csum_Right.mono _ _)
   | (with_reducible exact octets_Get.mono _ _ _ _)
   | (with_reducible exact LeO.refl _)
   | (with_reducible exact LeO.none _)
   | (with_reducible refine LeO.ite ?_ ?_)
   | (with_reducible refine LeO.bind ?_ (fun _ => ?_))
   | exact ih0 _ _ _ _
   | exact csum_Right.mono _ _
   | exact octets_Get.mono _ _ _ _
   | exact LeO.none _
   | refine LeO.ite ?_ ?_
   | refine LeO.bind ?_ (fun _ => ?_)
def inet_read.T14 : Bool × List (List Nat × List Nat) := (true, [([], []), ([0], [0]), ([1], [1]), ([], []), ([3], [3]), ([], []), ([5], [5]), ([6], [6]), ([], []), ([8], [8]), ([9], [9]), ([], []), ([11], [11]), ([], []), ([13], [13]), ([14], [14]), ([], []), ([16], [16]), ([17], [17]), ([2, 4, 7, 10, 12, 15, 18], [2, 4, 7, 10, 12, 15, 18]), ([], []), ([20, 19, 4, 0, 1, 2, 3, 4, 5, 6, 7, 8, 9, 10, 11, 12, 13, 14, 15, 16, 17, 18, 19, 20], [19, 20])])
def inet_read.B14 : List Nat := [0, 1, 3, 0, 8, 0, 32, 96, 0, 256, 768, 0, 2048, 0, 8192, 24576, 0, 65536, 196608, 524287, 0, 2097151]
theorem inet_read.tab14 : rtab .any (opsOf Tryd.f28 14) = inet_read.T14 := by kernel_rfl
theorem inet_read.bits14 : waitsOk inet_read.T14.2 inet_read.B14 = true := by kernel_rfl
def inet_read.T15 : Bool × List (List Nat × List Nat) := (true, [([], []), ([0], [0]), ([], []), ([2], [2]), ([], []), ([], []), ([4, 5], [4, 5]), ([0, 1], []), ([7, 1, 0, 1], [1, 7]), ([0, 1, 2, 3, 7, 8], []), ([9, 3, 8, 0, 1, 2, 3, 7, 8], [3, 9]), ([0, 1, 2, 3, 4, 5, 6, 7, 8, 9, 10], []), ([11, 6, 10, 0, 1, 2, 3, 4, 5, 6, 7, 8, 9, 10], [6, 11])])
def inet_read.B15 : List Nat := [0, 1, 0, 4, 0, 0, 48, 3, 131, 399, 911, 2047, 4095]
theorem inet_read.tab15 : rtab .any (opsOf Tryd.f28 15) = inet_read.T15 := by kernel_rfl
theorem inet_read.bits15 : waitsOk inet_read.T15.2 inet_read.B15 = true := by kernel_rfl
set_option maxHeartbeats 8000000 in
set_option maxRecDepth 100000 in
theorem inet_read.calls (k : Nat) (a0 : ByteArray) (r1 : Int) (r2 : Int) (r3 : Bool) (r4 : Bool) (r5 : Int) (r6 : Int) (r7 : Int) (r8 : Int) (r9 : Int) (r10 : ByteArray) (r11 : Option Int) (w : World) (h : inet_read.f k a0 = some (r1, r2, r3, r4, r5, r6, r7, r8, r9, r10, r11)) :
  Calls Tryd.prog 28 #[.string a0] w fun e w' => e = .returned (.tuple #[.agg #[.int .i64 r1, .int .i64 r2, .bool r3, .bool r4, .int .i64 r5, .int .i64 r6, .int .i64 r7, .int .u32 r8, .int .u32 r9, .string r10], errW r11]) ∧ Below w.heap.size w w' := by
 have hu24 := Tryd.underlying24
 have hu62 := Tryd.underlying62
 have hu51 := Tryd.underlying51
 have HB := Aside0.mk (Below.refl w.heap.size w)
 have H : (if (a0.size : Int) < 20 then (some (0, 0, false, false, 0, 0, 0, 0, 0, (⟨#[]⟩ : ByteArray), some 60)) else (if 0 < (a0.size : Int) then (if (bt a0 0) = 69 then (if 0 ≤ 20 then (if 20 ≤ (a0.size : Int) then ((csum_Right.f k (([a0.extract 0 20] : List ByteArray))).bind fun t172 => (if t172 = true then ((inet_get.f a0 2).bind fun t173 => ((inet_get.f a0 6).bind fun t174 => (if t173 < 20 then (inet_read.j0 k a0 t173 t174 true) else (inet_read.j0 k a0 t173 t174 ((Go.bits .and .i64 t174 32768) != 0))))) else (some (0, 0, false, false, 0, 0, 0, 0, 0, (⟨#[]⟩ : ByteArray), some 62)))) else (none)) else (none)) else (some (0, 0, false, false, 0, 0, 0, 0, 0, (⟨#[]⟩ : ByteArray), some 61))) else (none))) = some (r1, r2, r3, r4, r5, r6, r7, r8, r9, r10, r11) := h
 clear h
 by_cases c2 : (a0.size : Int) < 20
 ·rw [if_pos c2] at H
  have c2b0 : decide ((a0.size : Int) < 20) = true := decide_eq_true c2
  have c2b1 : decide (a0.size < 20) = true := decide_eq_true (by omega)
  clear c2
  simp only [Option.some.injEq, Prod.mk.injEq] at H
  obtain ⟨rfl, rfl, rfl, rfl, rfl, rfl, rfl, rfl, rfl, rfl, rfl⟩ := H
  go_enter Tryd.func28, Tryd.ntmps28
  go_wp2_with (first | ((with_reducible refine gate_dst (N := 2) rfl ?_); refine box_event ?hg (N := 2) ?hd (cs := #[.int .i64 0, .int .i64 0, .bool false, .bool false, .int .i64 0, .int .i64 0, .int .i64 0, .int .u32 0, .int .u32 0, .string (⟨#[]⟩ : ByteArray)]) (t := 24) ?hr ?_; (case hd => rfl); (case hg => rfl); (case hr => first | (go_simp; done) | (go_simp; rfl)); intro gb168 hg w3 hbox hb; have n0_ := Aside0.mk (below_step (by repeat (first | (with_reducible first | exact HB.out | apply below_alloc | apply pw_below_drewN | apply below_drew1) | exact HB.out)) hb); have n1_ := Aside0.mk (hbox); have n2_ := Aside0.mk ((by rw [hg]; exact (below_size (by repeat (first | (with_reducible first | exact HB.out | apply below_alloc | apply pw_below_drewN | apply below_drew1) | exact HB.out))) : w.heap.size ≤ gb168)); have n3_ := Aside0.mk ((by rw [hg]; exact (below_size (by repeat (first | (with_reducible first | exact HB.out | apply below_alloc | apply pw_below_drewN | apply below_drew1) | exact HB.out))) : w.heap.size ≤ gb168)); clear HB; have HB := n0_; have BK168 := n1_; have GW168 := n2_; have GE168 := n3_; clear n0_ n1_ n2_ n3_; clear hb hbox hg; have hcz4_0 : w3.cell? ⟨gb168, 0, none⟩ = some (.int .i64 0) := (blk_cell BK168.out 0).trans rfl; have hcz4_1 : w3.cell? ⟨gb168, 1, none⟩ = some (.int .i64 0) := (blk_cell BK168.out 1).trans rfl; have hcz4_2 : w3.cell? ⟨gb168, 2, none⟩ = some (.bool false) := (blk_cell BK168.out 2).trans rfl; have hcz4_3 : w3.cell? ⟨gb168, 3, none⟩ = some (.bool false) := (blk_cell BK168.out 3).trans rfl; have hcz4_4 : w3.cell? ⟨gb168, 4, none⟩ = some (.int .i64 0) := (blk_cell BK168.out 4).trans rfl; have hcz4_5 : w3.cell? ⟨gb168, 5, none⟩ = some (.int .i64 0) := (blk_cell BK168.out 5).trans rfl; have hcz4_6 : w3.cell? ⟨gb168, 6, none⟩ = some (.int .i64 0) := (blk_cell BK168.out 6).trans rfl; have hcz4_7 : w3.cell? ⟨gb168, 7, none⟩ = some (.int .u32 0) := (blk_cell BK168.out 7).trans rfl; have hcz4_8 : w3.cell? ⟨gb168, 8, none⟩ = some (.int .u32 0) := (blk_cell BK168.out 8).trans rfl; have hcz4_9 : w3.cell? ⟨gb168, 9, none⟩ = some (.string (⟨#[]⟩ : ByteArray)) := (blk_cell BK168.out 9).trans rfl; have hfz4_0 := blk_frozen BK168.out 0; have hfz4_1 := blk_frozen BK168.out 1; have hfz4_2 := blk_frozen BK168.out 2; have hfz4_3 := blk_frozen BK168.out 3; have hfz4_4 := blk_frozen BK168.out 4; have hfz4_5 := blk_frozen BK168.out 5; have hfz4_6 := blk_frozen BK168.out 6; have hfz4_7 := blk_frozen BK168.out 7; have hfz4_8 := blk_frozen BK168.out 8; have hfz4_9 := blk_frozen BK168.out 9))
  refine bodyPost_ret (results_ct rfl _ _ gb168 24 #[.int .i64 0, .int .i64 0, .bool false, .bool false, .int .i64 0, .int .i64 0, .int .i64 0, .int .u32 0, .int .u32 0, .string (⟨#[]⟩ : ByteArray)] (0, 0) _ rfl (by (with_reducible repeat (first | refine blk_drewN ?_ _ | refine blk_drew ?_ | refine blk_alloc ?_ _)); refine blk_put (cs := #[.int .i64 0, .int .i64 0, .bool false, .bool false, .int .i64 0, .int .i64 0, .int .i64 0, .int .u32 0, .int .u32 0, .string (⟨#[]⟩ : ByteArray)]) ?_ 9 _ rfl; (with_reducible repeat (first | refine blk_drewN ?_ _ | refine blk_drew ?_ | refine blk_alloc ?_ _)); refine blk_put (cs := #[.int .i64 0, .int .i64 0, .bool false, .bool false, .int .i64 0, .int .i64 0, .int .i64 0, .int .u32 0, .int .u32 0, .string (⟨#[]⟩ : ByteArray)]) ?_ 8 _ rfl; (with_reducible repeat (first | refine blk_drewN ?_ _ | refine blk_drew ?_ | refine blk_alloc ?_ _)); refine blk_put (cs := #[.int .i64 0, .int .i64 0, .bool false, .bool false, .int .i64 0, .int .i64 0, .int .i64 0, .int .u32 0, .int .u32 0, .string (⟨#[]⟩ : ByteArray)]) ?_ 7 _ rfl; (with_reducible repeat (first | refine blk_drewN ?_ _ | refine blk_drew ?_ | refine blk_alloc ?_ _)); refine blk_put (cs := #[.int .i64 0, .int .i64 0, .bool false, .bool false, .int .i64 0, .int .i64 0, .int .i64 0, .int .u32 0, .int .u32 0, .string (⟨#[]⟩ : ByteArray)]) ?_ 6 _ rfl; (with_reducible repeat (first | refine blk_drewN ?_ _ | refine blk_drew ?_ | refine blk_alloc ?_ _)); refine blk_put (cs := #[.int .i64 0, .int .i64 0, .bool false, .bool false, .int .i64 0, .int .i64 0, .int .i64 0, .int .u32 0, .int .u32 0, .string (⟨#[]⟩ : ByteArray)]) ?_ 5 _ rfl; (with_reducible repeat (first | refine blk_drewN ?_ _ | refine blk_drew ?_ | refine blk_alloc ?_ _)); refine blk_put (cs := #[.int .i64 0, .int .i64 0, .bool false, .bool false, .int .i64 0, .int .i64 0, .int .i64 0, .int .u32 0, .int .u32 0, .string (⟨#[]⟩ : ByteArray)]) ?_ 4 _ rfl; (with_reducible repeat (first | refine blk_drewN ?_ _ | refine blk_drew ?_ | refine blk_alloc ?_ _)); refine blk_put (cs := #[.int .i64 0, .int .i64 0, .bool false, .bool false, .int .i64 0, .int .i64 0, .int .i64 0, .int .u32 0, .int .u32 0, .string (⟨#[]⟩ : ByteArray)]) ?_ 3 _ rfl; (with_reducible repeat (first | refine blk_drewN ?_ _ | refine blk_drew ?_ | refine blk_alloc ?_ _)); refine blk_put (cs := #[.int .i64 0, .int .i64 0, .bool false, .bool false, .int .i64 0, .int .i64 0, .int .i64 0, .int .u32 0, .int .u32 0, .string (⟨#[]⟩ : ByteArray)]) ?_ 2 _ rfl; (with_reducible repeat (first | refine blk_drewN ?_ _ | refine blk_drew ?_ | refine blk_alloc ?_ _)); refine blk_put (cs := #[.int .i64 0, .int .i64 0, .bool false, .bool false, .int .i64 0, .int .i64 0, .int .i64 0, .int .u32 0, .int .u32 0, .string (⟨#[]⟩ : ByteArray)]) ?_ 1 _ rfl; (with_reducible repeat (first | refine blk_drewN ?_ _ | refine blk_drew ?_ | refine blk_alloc ?_ _)); refine blk_put (cs := #[.int .i64 0, .int .i64 0, .bool false, .bool false, .int .i64 0, .int .i64 0, .int .i64 0, .int .u32 0, .int .u32 0, .string (⟨#[]⟩ : ByteArray)]) ?_ 0 _ rfl; (with_reducible repeat (first | refine blk_drewN ?_ _ | refine blk_drew ?_ | refine blk_alloc ?_ _)); exact BK168.out) Tryd.underlying24 rfl (by kernel_rfl)) rfl ?_
  exact ⟨by first | rfl | (simp [errW_none, errW_some] <;> rfl) | (simp [*, errW_none, errW_some] <;> rfl) | (simp [*, IntKind.wrap_u32]; done) | (simp_all [IntKind.wrap_u32]; done), by repeat (first | (with_reducible first | exact HB.out | apply below_alloc | apply pw_below_drewN | apply below_drew1 | refine below_set ?_ GE168.out) | exact HB.out)⟩
 ·rw [if_neg c2] at H
  have c2b0 : decide ((a0.size : Int) < 20) = false := decide_eq_false c2
  have c2b1 : decide (a0.size < 20) = false := decide_eq_false (by omega)
  clear c2
  by_cases c5 : 0 < (a0.size : Int)
  ·rw [if_pos c5] at H
   have c5b0 : decide (0 < (a0.size : Int)) = true := decide_eq_true c5
   have c5b1 : decide (0 < a0.size) = true := decide_eq_true (by omega)
   clear c5
   by_cases c7 : (bt a0 0) = 69
   ·rw [if_pos c7] at H
    have c7b0 : ((bt a0 0) == 69) = true := beq_iff_eq.mpr c7
    have c7b1 : ((bt a0 0) != 69) = false := bne_eq_false_iff_eq.mpr c7
    clear c7
    by_cases c8 : 0 ≤ 20
    ·rw [if_pos c8] at H
     have c8b0 := eq_true c8
     have c8b1 : decide (0 ≤ 20) = true := decide_eq_true c8
     clear c8
     by_cases c9 : 20 ≤ (a0.size : Int)
     ·rw [if_pos c9] at H
      have c9b0 := eq_true c9
      have c9b1 : decide (20 ≤ (a0.size : Int)) = true := decide_eq_true c9
      clear c9
      obtain ⟨y169, hy169⟩ : ∃ y_ : List ByteArray, y_ = (([a0.extract 0 20] : List ByteArray)) := ⟨_, rfl⟩
      replace H : ((csum_Right.f k y169).bind fun t172 => (if t172 = true then ((inet_get.f a0 2).bind fun t173 => ((inet_get.f a0 6).bind fun t174 => (if t173 < 20 then (inet_read.j0 k a0 t173 t174 true) else (inet_read.j0 k a0 t173 t174 ((Go.bits .and .i64 t174 32768) != 0))))) else (some (0, 0, false, false, 0, 0, 0, 0, 0, (⟨#[]⟩ : ByteArray), some 62)))) = some (r1, r2, r3, r4, r5, r6, r7, r8, r9, r10, r11) := by first | (rw [hy169]; with_reducible exact H) | (have H2_ := (Option.bind_some _ _).symm.trans H; rw [hy169]; with_reducible exact H2_) | (have H2_ := (Option.bind_some _ _).symm.trans H; with_reducible exact H2_) | with_reducible exact H | (rw [hy169]; exact H) | exact H
      have Ny169 := Aside0.mk hy169
      clear hy169
      replace H := Option.bind_eq_some_iff.mp H
      obtain ⟨t172, A100, H⟩ := H
      replace H : (if t172 = true then ((inet_get.f a0 2).bind fun t173 => ((inet_get.f a0 6).bind fun t174 => (if t173 < 20 then (inet_read.j0 k a0 t173 t174 true) else (inet_read.j0 k a0 t173 t174 ((Go.bits .and .i64 t174 32768) != 0))))) else (some (0, 0, false, false, 0, 0, 0, 0, 0, (⟨#[]⟩ : ByteArray), some 62))) = some (r1, r2, r3, r4, r5, r6, r7, r8, r9, r10, r11) := H
      have A10 := Aside0.mk A100
      clear A100
      by_cases c11 : t172 = true
      ·subst c11
       have H1 : ((inet_get.f a0 2).bind fun t173 => ((inet_get.f a0 6).bind fun t174 => (if t173 < 20 then (inet_read.j0 k a0 t173 t174 true) else (inet_read.j0 k a0 t173 t174 ((Go.bits .and .i64 t174 32768) != 0))))) = some (r1, r2, r3, r4, r5, r6, r7, r8, r9, r10, r11) := by rw [if_pos rfl] at H; exact H
       clear H
       have H := H1
       clear H1
       replace H := Option.bind_eq_some_iff.mp H
       obtain ⟨t173, A120, H⟩ := H
       replace H : ((inet_get.f a0 6).bind fun t174 => (if t173 < 20 then (inet_read.j0 k a0 t173 t174 true) else (inet_read.j0 k a0 t173 t174 ((Go.bits .and .i64 t174 32768) != 0)))) = some (r1, r2, r3, r4, r5, r6, r7, r8, r9, r10, r11) := H
       have A12 := Aside0.mk A120
       clear A120
       replace H := Option.bind_eq_some_iff.mp H
       obtain ⟨t174, A130, H⟩ := H
       replace H : (if t173 < 20 then (inet_read.j0 k a0 t173 t174 true) else (inet_read.j0 k a0 t173 t174 ((Go.bits .and .i64 t174 32768) != 0))) = some (r1, r2, r3, r4, r5, r6, r7, r8, r9, r10, r11) := H
       have A13 := Aside0.mk A130
       clear A130
       have HC14 := Aside0.mk H
       clear H
       go_enter Tryd.func28, Tryd.ntmps28
       go_upto_region 8 with (first | ((with_reducible refine gate_dst (N := 2) rfl ?_); refine box_event ?hg (N := 2) ?hd (cs := #[.int .i64 0, .int .i64 0, .bool false, .bool false, .int .i64 0, .int .i64 0, .int .i64 0, .int .u32 0, .int .u32 0, .string (⟨#[]⟩ : ByteArray)]) (t := 24) ?hr ?_; (case hd => rfl); (case hg => rfl); (case hr => first | (go_simp; done) | (go_simp; rfl)); intro gb168 hg w15 hbox hb; have n0_ := Aside0.mk (below_step (by repeat (first | (with_reducible first | exact HB.out | apply below_alloc | apply pw_below_drewN | apply below_drew1) | exact HB.out)) hb); have n1_ := Aside0.mk (hbox); have n2_ := Aside0.mk ((by rw [hg]; exact (below_size (by repeat (first | (with_reducible first | exact HB.out | apply below_alloc | apply pw_below_drewN | apply below_drew1) | exact HB.out))) : w.heap.size ≤ gb168)); have n3_ := Aside0.mk ((by rw [hg]; exact (below_size (by repeat (first | (with_reducible first | exact HB.out | apply below_alloc | apply pw_below_drewN | apply below_drew1) | exact HB.out))) : w.heap.size ≤ gb168)); clear HB; have HB := n0_; have BK168 := n1_; have GW168 := n2_; have GE168 := n3_; clear n0_ n1_ n2_ n3_; clear hb hbox hg; have p6 : 0 ≤ (0 : Int) := (by omega); have q6 : 0 < a0.size := (by have : (0 : Int) < (a0.size : Int) := of_decide_eq_true (by first | (with_reducible assumption) | assumption); omega); have hx6 : ∀ h : 0 < a0.size, ((a0[0]'h).toNat : Int) = bt a0 0 := bt_at a0 0; clear p6; have qi6 : (0 < (a0.size : Int)) = True := eq_true (of_decide_eq_true (by first | (with_reducible assumption) | assumption)); replace q6 := eq_true q6) | ((with_reducible refine gate_dst (N := 28) rfl ?_); refine Kd.R_lit Kd.string _ 9 ?hg (N := 28) ?hd (xs := ([a0.extract 0 20] : List ByteArray)) (inner := [.string (a0.extract 0 20)]) (ok := fun _ => True) (okp := fun _ => True) ?hr ?hp (fun _ hk => hk) trivial (Below.refl _ _) (Nat.le_refl _) (by simp) ?_; (case hd => rfl); (case hg => rfl); (case hr => first | (go_simp; done) | (go_simp; rfl)); (case hp => exact (Reps.one (show Kd.M Kd.string _ _ _ (a0.extract 0 20) [.string (a0.extract 0 20)] from rfl) (Reps.none _ _))); intro v170 w16 ho17 hb hg_ hnew_; clear hg_ hnew_; (first | rw [← Ny169.out] at ho17 | (simp only [Int.reduceToNat] at ho17; rw [← Ny169.out] at ho17)); have n0_ := Aside0.mk (Kd.R_lower ho17 (below_size (by repeat (first | (with_reducible first | exact HB.out | apply below_alloc | apply pw_below_drewN | apply below_drew1 | refine below_set ?_ GE168.out) | exact HB.out)))); have n1_ := Aside0.mk (blk_below (g := gb168) (o := .cells #[.int .i64 0, .int .i64 0, .bool false, .bool false, .int .i64 0, .int .i64 0, .int .i64 0, .int .u32 0, .int .u32 0, .string (⟨#[]⟩ : ByteArray)] 24 (0, 0)) (by (with_reducible repeat (first | refine blk_drewN ?_ _ | refine blk_drew ?_ | refine blk_alloc ?_ _)); exact BK168.out) hb); have n2_ := Aside0.mk (below_step (by repeat (first | (with_reducible first | exact HB.out | apply below_alloc | apply pw_below_drewN | apply below_drew1 | refine below_set ?_ GE168.out) | exact HB.out)) hb); clear BK168; clear HB; have HO171 := n0_; have BK168 := n1_; have HB := n2_; clear n0_ n1_ n2_; clear hb ho17; obtain ⟨Ao18, co18, eo18⟩ := Kd.R_slice HO171.out; subst eo18) | ((with_reducible refine gate_callee (f := 38) rfl ?_); refine goesL_ (some 29) rfl rfl Tryd.func38 (by kernel_rfl) rfl #[.slice Ao18 y169.length co18] rfl (by (try simp only [List.map_toArray, List.map_cons, List.map_nil]); first | done | rfl | (simp only [List.length_drop, List.length_take]; rfl)) ?_; (with_reducible refine (csum_Right.calls k _ _ y169 true _ ?side1 ?side2 A10.out).mono ?_); (case side1 => repeat (first | exact (Kd.R_reads' HO171.out).2.2 | (with_reducible refine Kd.C_alloc ?_ _) | (with_reducible refine Kd.C_drewN ?_ _) | (with_reducible refine Kd.C_drew ?_))); (case side2 => exact (Kd.R_reads' HO171.out).2.1); rintro e w19 ⟨rfl, hb⟩; refine ⟨_, rfl, ?_⟩; have n0_ := Aside0.mk (Kd.R_below (by (with_reducible repeat (first | apply Kd.R_alloc | apply Kd.R_drewN | apply Kd.R_drew)); exact HO171.out) hb); have n1_ := Aside0.mk (blk_below (g := gb168) (o := .cells #[.int .i64 0, .int .i64 0, .bool false, .bool false, .int .i64 0, .int .i64 0, .int .i64 0, .int .u32 0, .int .u32 0, .string (⟨#[]⟩ : ByteArray)] 24 (0, 0)) (by (with_reducible repeat (first | refine blk_drewN ?_ _ | refine blk_drew ?_ | refine blk_alloc ?_ _)); exact BK168.out) hb); have n2_ := Aside0.mk (below_step (by repeat (first | (with_reducible first | exact HB.out | apply below_alloc | apply pw_below_drewN | apply below_drew1 | refine below_set ?_ GE168.out) | exact HB.out)) hb); clear HO171; clear BK168; clear HB; have HO171 := n0_; have BK168 := n1_; have HB := n2_; clear n0_ n1_ n2_; (try clear hb); (try clear hb2); (try clear hk); (try clear hi)) | ((with_reducible refine gate_callee (f := 31) rfl ?_); refine goesL_ (some 35) rfl rfl Tryd.func31 (by kernel_rfl) rfl #[.string a0, .int .i64 2] rfl (by (try simp only [List.map_toArray, List.map_cons, List.map_nil]); first | done | rfl | (simp only [List.length_drop, List.length_take]; rfl)) ?_; (with_reducible refine (inet_get.calls a0 2 t173 _ A12.out).mono ?_); rintro e w' ⟨rfl, ⟨nd, rfl⟩⟩; refine ⟨_, rfl, ?_⟩) | ((with_reducible refine gate_callee (f := 31) rfl ?_); refine goesL_ (some 37) rfl rfl Tryd.func31 (by kernel_rfl) rfl #[.string a0, .int .i64 6] rfl (by (try simp only [List.map_toArray, List.map_cons, List.map_nil]); first | done | rfl | (simp only [List.length_drop, List.length_take]; rfl)) ?_; (with_reducible refine (inet_get.calls a0 6 t174 _ A13.out).mono ?_); rintro e w' ⟨rfl, ⟨nd, rfl⟩⟩; refine ⟨_, rfl, ?_⟩))
       (try simp only [Act.put, List.setIfInBounds_toArray, List.set_cons_zero, List.set_cons_succ])
       go_cut [38] (fun v38 wc => ∃ (kq : Nat) (x38_13 : Bool), v38 = .bool x38_13 ∧ Aside0 (inet_read.j0 kq a0 t173 t174 x38_13 = some (r1, r2, r3, r4, r5, r6, r7, r8, r9, r10, r11)) ∧ Aside0 (kq ≤ k) ∧ Aside0 (wc.heap[gb168]? = some (.cells #[.int .i64 0, .int .i64 0, .bool false, .bool false, .int .i64 0, .int .i64 0, .int .i64 0, .int .u32 0, .int .u32 0, .string (⟨#[]⟩ : ByteArray)] 24 (0, 0))) ∧ Aside0 (Below w.heap.size w wc))
       case first =>
        have H := HC14.out
        clear HC14
        by_cases c20 : t173 < 20
        ·rw [if_pos c20] at H
         have c20b0 : decide (t173 < 20) = true := decide_eq_true c20
         clear c20
         (first | rw [c20b0] | (simp only [i64_w, i32_w]; rw [c20b0]) | skip)
         have H' := Aside0.mk H
         clear H
         go_wp2
         go_meet
         case rel => exact ⟨_, (true), (by first | rfl | (simp; done) | (simp [*]; done)), H', ⟨by first | omega | exact Nat.le_refl _⟩, ⟨by (with_reducible repeat (first | refine blk_drewN ?_ _ | refine blk_drew ?_ | refine blk_alloc ?_ _)); exact BK168.out⟩, ⟨by repeat (first | (with_reducible first | exact HB.out | apply below_alloc | apply pw_below_drewN | apply below_drew1 | refine below_set ?_ GE168.out) | exact HB.out)⟩⟩
        ·rw [if_neg c20] at H
         have c20b0 : decide (t173 < 20) = false := decide_eq_false c20
         clear c20
         (first | rw [c20b0] | (simp only [i64_w, i32_w]; rw [c20b0]) | skip)
         have H' := Aside0.mk H
         clear H
         go_wp2
         go_meet
         case rel => exact ⟨_, (((Go.bits .and .i64 t174 32768) != 0)), (by first | rfl | (simp; done) | (simp [*]; done)), H', ⟨by first | omega | exact Nat.le_refl _⟩, ⟨by (with_reducible repeat (first | refine blk_drewN ?_ _ | refine blk_drew ?_ | refine blk_alloc ?_ _)); exact BK168.out⟩, ⟨by repeat (first | (with_reducible first | exact HB.out | apply below_alloc | apply pw_below_drewN | apply below_drew1 | refine below_set ?_ GE168.out) | exact HB.out)⟩⟩
       case rest =>
        clear HC14
        try clear c1
        try clear c2
        try clear c2b0
        try clear c2b1
        try clear p2
        try clear c3
        try clear c5
        try clear c5b0
        try clear c5b1
        try clear p6
        try clear q6
        try clear hx6
        try clear qi6
        try clear c7
        try clear c7b0
        try clear c7b1
        try clear c8
        try clear c8b0
        try clear c8b1
        try clear c9
        try clear c9b0
        try clear c9b1
        try clear c11
        try clear c20
        try clear c20b0
        try clear hcz4_0
        try clear hcz4_1
        try clear hcz4_2
        try clear hcz4_3
        try clear hcz4_4
        try clear hcz4_5
        try clear hcz4_6
        try clear hcz4_7
        try clear hcz4_8
        try clear hcz4_9
        try clear hfz4_0
        try clear hfz4_1
        try clear hfz4_2
        try clear hfz4_3
        try clear hfz4_4
        try clear hfz4_5
        try clear hfz4_6
        try clear hfz4_7
        try clear hfz4_8
        try clear hfz4_9
        try clear p6
        try clear q6
        obtain ⟨kq, x38_13, rfl, HA, HJ13, BK168, HB⟩ := hcut
        cases kq with
        | zero => exact absurd HA.out (by simp [inet_read.j0])
        | succ kj13 =>
         have H := HA.out
         clear HA
         simp only [inet_read.j0] at H
         by_cases c21 : x38_13 = true
         ·subst c21
          have H1 : (some (0, 0, false, false, 0, 0, 0, 0, 0, (⟨#[]⟩ : ByteArray), some 61)) = some (r1, r2, r3, r4, r5, r6, r7, r8, r9, r10, r11) := by rw [if_pos rfl] at H; exact H
          clear H
          have H := H1
          clear H1
          simp only [Option.some.injEq, Prod.mk.injEq] at H
          obtain ⟨rfl, rfl, rfl, rfl, rfl, rfl, rfl, rfl, rfl, rfl, rfl⟩ := H
          have hcz22_0 : wc.cell? ⟨gb168, 0, none⟩ = some (.int .i64 0) := (blk_cell BK168.out 0).trans rfl
          have hcz22_1 : wc.cell? ⟨gb168, 1, none⟩ = some (.int .i64 0) := (blk_cell BK168.out 1).trans rfl
          have hcz22_2 : wc.cell? ⟨gb168, 2, none⟩ = some (.bool false) := (blk_cell BK168.out 2).trans rfl
          have hcz22_3 : wc.cell? ⟨gb168, 3, none⟩ = some (.bool false) := (blk_cell BK168.out 3).trans rfl
          have hcz22_4 : wc.cell? ⟨gb168, 4, none⟩ = some (.int .i64 0) := (blk_cell BK168.out 4).trans rfl
          have hcz22_5 : wc.cell? ⟨gb168, 5, none⟩ = some (.int .i64 0) := (blk_cell BK168.out 5).trans rfl
          have hcz22_6 : wc.cell? ⟨gb168, 6, none⟩ = some (.int .i64 0) := (blk_cell BK168.out 6).trans rfl
          have hcz22_7 : wc.cell? ⟨gb168, 7, none⟩ = some (.int .u32 0) := (blk_cell BK168.out 7).trans rfl
          have hcz22_8 : wc.cell? ⟨gb168, 8, none⟩ = some (.int .u32 0) := (blk_cell BK168.out 8).trans rfl
          have hcz22_9 : wc.cell? ⟨gb168, 9, none⟩ = some (.string (⟨#[]⟩ : ByteArray)) := (blk_cell BK168.out 9).trans rfl
          have hfz22_0 := blk_frozen BK168.out 0
          have hfz22_1 := blk_frozen BK168.out 1
          have hfz22_2 := blk_frozen BK168.out 2
          have hfz22_3 := blk_frozen BK168.out 3
          have hfz22_4 := blk_frozen BK168.out 4
          have hfz22_5 := blk_frozen BK168.out 5
          have hfz22_6 := blk_frozen BK168.out 6
          have hfz22_7 := blk_frozen BK168.out 7
          have hfz22_8 := blk_frozen BK168.out 8
          have hfz22_9 := blk_frozen BK168.out 9
          go_wp2
          refine bodyPost_ret (results_ct rfl _ _ gb168 24 #[.int .i64 0, .int .i64 0, .bool false, .bool false, .int .i64 0, .int .i64 0, .int .i64 0, .int .u32 0, .int .u32 0, .string (⟨#[]⟩ : ByteArray)] (0, 0) _ rfl (by (with_reducible repeat (first | refine blk_drewN ?_ _ | refine blk_drew ?_ | refine blk_alloc ?_ _)); refine blk_put (cs := #[.int .i64 0, .int .i64 0, .bool false, .bool false, .int .i64 0, .int .i64 0, .int .i64 0, .int .u32 0, .int .u32 0, .string (⟨#[]⟩ : ByteArray)]) ?_ 9 _ rfl; (with_reducible repeat (first | refine blk_drewN ?_ _ | refine blk_drew ?_ | refine blk_alloc ?_ _)); refine blk_put (cs := #[.int .i64 0, .int .i64 0, .bool false, .bool false, .int .i64 0, .int .i64 0, .int .i64 0, .int .u32 0, .int .u32 0, .string (⟨#[]⟩ : ByteArray)]) ?_ 8 _ rfl; (with_reducible repeat (first | refine blk_drewN ?_ _ | refine blk_drew ?_ | refine blk_alloc ?_ _)); refine blk_put (cs := #[.int .i64 0, .int .i64 0, .bool false, .bool false, .int .i64 0, .int .i64 0, .int .i64 0, .int .u32 0, .int .u32 0, .string (⟨#[]⟩ : ByteArray)]) ?_ 7 _ rfl; (with_reducible repeat (first | refine blk_drewN ?_ _ | refine blk_drew ?_ | refine blk_alloc ?_ _)); refine blk_put (cs := #[.int .i64 0, .int .i64 0, .bool false, .bool false, .int .i64 0, .int .i64 0, .int .i64 0, .int .u32 0, .int .u32 0, .string (⟨#[]⟩ : ByteArray)]) ?_ 6 _ rfl; (with_reducible repeat (first | refine blk_drewN ?_ _ | refine blk_drew ?_ | refine blk_alloc ?_ _)); refine blk_put (cs := #[.int .i64 0, .int .i64 0, .bool false, .bool false, .int .i64 0, .int .i64 0, .int .i64 0, .int .u32 0, .int .u32 0, .string (⟨#[]⟩ : ByteArray)]) ?_ 5 _ rfl; (with_reducible repeat (first | refine blk_drewN ?_ _ | refine blk_drew ?_ | refine blk_alloc ?_ _)); refine blk_put (cs := #[.int .i64 0, .int .i64 0, .bool false, .bool false, .int .i64 0, .int .i64 0, .int .i64 0, .int .u32 0, .int .u32 0, .string (⟨#[]⟩ : ByteArray)]) ?_ 4 _ rfl; (with_reducible repeat (first | refine blk_drewN ?_ _ | refine blk_drew ?_ | refine blk_alloc ?_ _)); refine blk_put (cs := #[.int .i64 0, .int .i64 0, .bool false, .bool false, .int .i64 0, .int .i64 0, .int .i64 0, .int .u32 0, .int .u32 0, .string (⟨#[]⟩ : ByteArray)]) ?_ 3 _ rfl; (with_reducible repeat (first | refine blk_drewN ?_ _ | refine blk_drew ?_ | refine blk_alloc ?_ _)); refine blk_put (cs := #[.int .i64 0, .int .i64 0, .bool false, .bool false, .int .i64 0, .int .i64 0, .int .i64 0, .int .u32 0, .int .u32 0, .string (⟨#[]⟩ : ByteArray)]) ?_ 2 _ rfl; (with_reducible repeat (first | refine blk_drewN ?_ _ | refine blk_drew ?_ | refine blk_alloc ?_ _)); refine blk_put (cs := #[.int .i64 0, .int .i64 0, .bool false, .bool false, .int .i64 0, .int .i64 0, .int .i64 0, .int .u32 0, .int .u32 0, .string (⟨#[]⟩ : ByteArray)]) ?_ 1 _ rfl; (with_reducible repeat (first | refine blk_drewN ?_ _ | refine blk_drew ?_ | refine blk_alloc ?_ _)); refine blk_put (cs := #[.int .i64 0, .int .i64 0, .bool false, .bool false, .int .i64 0, .int .i64 0, .int .i64 0, .int .u32 0, .int .u32 0, .string (⟨#[]⟩ : ByteArray)]) ?_ 0 _ rfl; (with_reducible repeat (first | refine blk_drewN ?_ _ | refine blk_drew ?_ | refine blk_alloc ?_ _)); exact BK168.out) Tryd.underlying24 rfl (by kernel_rfl)) rfl ?_
          exact ⟨by first | rfl | (simp [errW_none, errW_some] <;> rfl) | (simp [*, errW_none, errW_some] <;> rfl) | (simp [*, IntKind.wrap_u32]; done) | (simp_all [IntKind.wrap_u32]; done), by repeat (first | (with_reducible first | exact HB.out | apply below_alloc | apply pw_below_drewN | apply below_drew1 | refine below_set ?_ GE168.out) | exact HB.out)⟩
         ·replace c21 := Bool.eq_false_iff.mpr c21
          subst c21
          have H1 : (if t173 > (a0.size : Int) then (some (0, 0, false, false, 0, 0, 0, 0, 0, (⟨#[]⟩ : ByteArray), some 60)) else ((octets_Get.f kj13 a0 12 4).bind fun bt175 => ((octets_Get.f kj13 a0 16 4).bind fun bt177 => (if 1 < (a0.size : Int) then ((inet_get.f a0 4).bind fun t179 => (if 8 < (a0.size : Int) then (if 9 < (a0.size : Int) then (if 20 ≤ t173 then (if t173 ≤ (a0.size : Int) then (some (wrap64 (bt a0 1), t179, ((Go.bits .and .i64 t174 16384) != 0), ((Go.bits .and .i64 t174 8192) != 0), Int.tmod t174 8192, wrap64 (bt a0 8), wrap64 (bt a0 9), (bt175.1) % 4294967296, (bt177.1) % 4294967296, a0.extract 20 (t173 : Int).toNat, none)) else (none)) else (none)) else (none)) else (none))) else (none))))) = some (r1, r2, r3, r4, r5, r6, r7, r8, r9, r10, r11) := by rw [if_neg (show ¬ (false = true) by decide)] at H; exact H
          clear H
          have H := H1
          clear H1
          by_cases c23 : t173 > (a0.size : Int)
          ·rw [if_pos c23] at H
           have c23b0 : decide ((a0.size : Int) < t173) = true := decide_eq_true c23
           clear c23
           simp only [Option.some.injEq, Prod.mk.injEq] at H
           obtain ⟨rfl, rfl, rfl, rfl, rfl, rfl, rfl, rfl, rfl, rfl, rfl⟩ := H
           have hcz24_0 : wc.cell? ⟨gb168, 0, none⟩ = some (.int .i64 0) := (blk_cell BK168.out 0).trans rfl
           have hcz24_1 : wc.cell? ⟨gb168, 1, none⟩ = some (.int .i64 0) := (blk_cell BK168.out 1).trans rfl
           have hcz24_2 : wc.cell? ⟨gb168, 2, none⟩ = some (.bool false) := (blk_cell BK168.out 2).trans rfl
           have hcz24_3 : wc.cell? ⟨gb168, 3, none⟩ = some (.bool false) := (blk_cell BK168.out 3).trans rfl
           have hcz24_4 : wc.cell? ⟨gb168, 4, none⟩ = some (.int .i64 0) := (blk_cell BK168.out 4).trans rfl
           have hcz24_5 : wc.cell? ⟨gb168, 5, none⟩ = some (.int .i64 0) := (blk_cell BK168.out 5).trans rfl
           have hcz24_6 : wc.cell? ⟨gb168, 6, none⟩ = some (.int .i64 0) := (blk_cell BK168.out 6).trans rfl
           have hcz24_7 : wc.cell? ⟨gb168, 7, none⟩ = some (.int .u32 0) := (blk_cell BK168.out 7).trans rfl
           have hcz24_8 : wc.cell? ⟨gb168, 8, none⟩ = some (.int .u32 0) := (blk_cell BK168.out 8).trans rfl
           have hcz24_9 : wc.cell? ⟨gb168, 9, none⟩ = some (.string (⟨#[]⟩ : ByteArray)) := (blk_cell BK168.out 9).trans rfl
           have hfz24_0 := blk_frozen BK168.out 0
           have hfz24_1 := blk_frozen BK168.out 1
           have hfz24_2 := blk_frozen BK168.out 2
           have hfz24_3 := blk_frozen BK168.out 3
           have hfz24_4 := blk_frozen BK168.out 4
           have hfz24_5 := blk_frozen BK168.out 5
           have hfz24_6 := blk_frozen BK168.out 6
           have hfz24_7 := blk_frozen BK168.out 7
           have hfz24_8 := blk_frozen BK168.out 8
           have hfz24_9 := blk_frozen BK168.out 9
           go_wp2
           refine bodyPost_ret (results_ct rfl _ _ gb168 24 #[.int .i64 0, .int .i64 0, .bool false, .bool false, .int .i64 0, .int .i64 0, .int .i64 0, .int .u32 0, .int .u32 0, .string (⟨#[]⟩ : ByteArray)] (0, 0) _ rfl (by (with_reducible repeat (first | refine blk_drewN ?_ _ | refine blk_drew ?_ | refine blk_alloc ?_ _)); refine blk_put (cs := #[.int .i64 0, .int .i64 0, .bool false, .bool false, .int .i64 0, .int .i64 0, .int .i64 0, .int .u32 0, .int .u32 0, .string (⟨#[]⟩ : ByteArray)]) ?_ 9 _ rfl; (with_reducible repeat (first | refine blk_drewN ?_ _ | refine blk_drew ?_ | refine blk_alloc ?_ _)); refine blk_put (cs := #[.int .i64 0, .int .i64 0, .bool false, .bool false, .int .i64 0, .int .i64 0, .int .i64 0, .int .u32 0, .int .u32 0, .string (⟨#[]⟩ : ByteArray)]) ?_ 8 _ rfl; (with_reducible repeat (first | refine blk_drewN ?_ _ | refine blk_drew ?_ | refine blk_alloc ?_ _)); refine blk_put (cs := #[.int .i64 0, .int .i64 0, .bool false, .bool false, .int .i64 0, .int .i64 0, .int .i64 0, .int .u32 0, .int .u32 0, .string (⟨#[]⟩ : ByteArray)]) ?_ 7 _ rfl; (with_reducible repeat (first | refine blk_drewN ?_ _ | refine blk_drew ?_ | refine blk_alloc ?_ _)); refine blk_put (cs := #[.int .i64 0, .int .i64 0, .bool false, .bool false, .int .i64 0, .int .i64 0, .int .i64 0, .int .u32 0, .int .u32 0, .string (⟨#[]⟩ : ByteArray)]) ?_ 6 _ rfl; (with_reducible repeat (first | refine blk_drewN ?_ _ | refine blk_drew ?_ | refine blk_alloc ?_ _)); refine blk_put (cs := #[.int .i64 0, .int .i64 0, .bool false, .bool false, .int .i64 0, .int .i64 0, .int .i64 0, .int .u32 0, .int .u32 0, .string (⟨#[]⟩ : ByteArray)]) ?_ 5 _ rfl; (with_reducible repeat (first | refine blk_drewN ?_ _ | refine blk_drew ?_ | refine blk_alloc ?_ _)); refine blk_put (cs := #[.int .i64 0, .int .i64 0, .bool false, .bool false, .int .i64 0, .int .i64 0, .int .i64 0, .int .u32 0, .int .u32 0, .string (⟨#[]⟩ : ByteArray)]) ?_ 4 _ rfl; (with_reducible repeat (first | refine blk_drewN ?_ _ | refine blk_drew ?_ | refine blk_alloc ?_ _)); refine blk_put (cs := #[.int .i64 0, .int .i64 0, .bool false, .bool false, .int .i64 0, .int .i64 0, .int .i64 0, .int .u32 0, .int .u32 0, .string (⟨#[]⟩ : ByteArray)]) ?_ 3 _ rfl; (with_reducible repeat (first | refine blk_drewN ?_ _ | refine blk_drew ?_ | refine blk_alloc ?_ _)); refine blk_put (cs := #[.int .i64 0, .int .i64 0, .bool false, .bool false, .int .i64 0, .int .i64 0, .int .i64 0, .int .u32 0, .int .u32 0, .string (⟨#[]⟩ : ByteArray)]) ?_ 2 _ rfl; (with_reducible repeat (first | refine blk_drewN ?_ _ | refine blk_drew ?_ | refine blk_alloc ?_ _)); refine blk_put (cs := #[.int .i64 0, .int .i64 0, .bool false, .bool false, .int .i64 0, .int .i64 0, .int .i64 0, .int .u32 0, .int .u32 0, .string (⟨#[]⟩ : ByteArray)]) ?_ 1 _ rfl; (with_reducible repeat (first | refine blk_drewN ?_ _ | refine blk_drew ?_ | refine blk_alloc ?_ _)); refine blk_put (cs := #[.int .i64 0, .int .i64 0, .bool false, .bool false, .int .i64 0, .int .i64 0, .int .i64 0, .int .u32 0, .int .u32 0, .string (⟨#[]⟩ : ByteArray)]) ?_ 0 _ rfl; (with_reducible repeat (first | refine blk_drewN ?_ _ | refine blk_drew ?_ | refine blk_alloc ?_ _)); exact BK168.out) Tryd.underlying24 rfl (by kernel_rfl)) rfl ?_
           exact ⟨by first | rfl | (simp [errW_none, errW_some] <;> rfl) | (simp [*, errW_none, errW_some] <;> rfl) | (simp [*, IntKind.wrap_u32]; done) | (simp_all [IntKind.wrap_u32]; done), by repeat (first | (with_reducible first | exact HB.out | apply below_alloc | apply pw_below_drewN | apply below_drew1 | refine below_set ?_ GE168.out) | exact HB.out)⟩
          ·rw [if_neg c23] at H
           have c23b0 : decide ((a0.size : Int) < t173) = false := decide_eq_false c23
           clear c23
           replace H := Option.bind_eq_some_iff.mp H
           obtain ⟨⟨t175, t176⟩, A250, H⟩ := H
           replace H : ((octets_Get.f kj13 a0 16 4).bind fun bt177 => (if 1 < (a0.size : Int) then ((inet_get.f a0 4).bind fun t179 => (if 8 < (a0.size : Int) then (if 9 < (a0.size : Int) then (if 20 ≤ t173 then (if t173 ≤ (a0.size : Int) then (some (wrap64 (bt a0 1), t179, ((Go.bits .and .i64 t174 16384) != 0), ((Go.bits .and .i64 t174 8192) != 0), Int.tmod t174 8192, wrap64 (bt a0 8), wrap64 (bt a0 9), (t175) % 4294967296, (bt177.1) % 4294967296, a0.extract 20 (t173 : Int).toNat, none)) else (none)) else (none)) else (none)) else (none))) else (none))) = some (r1, r2, r3, r4, r5, r6, r7, r8, r9, r10, r11) := H
           have A25 := Aside0.mk A250
           clear A250
           replace H := Option.bind_eq_some_iff.mp H
           obtain ⟨⟨t177, t178⟩, A260, H⟩ := H
           replace H : (if 1 < (a0.size : Int) then ((inet_get.f a0 4).bind fun t179 => (if 8 < (a0.size : Int) then (if 9 < (a0.size : Int) then (if 20 ≤ t173 then (if t173 ≤ (a0.size : Int) then (some (wrap64 (bt a0 1), t179, ((Go.bits .and .i64 t174 16384) != 0), ((Go.bits .and .i64 t174 8192) != 0), Int.tmod t174 8192, wrap64 (bt a0 8), wrap64 (bt a0 9), (t175) % 4294967296, (t177) % 4294967296, a0.extract 20 (t173 : Int).toNat, none)) else (none)) else (none)) else (none)) else (none))) else (none)) = some (r1, r2, r3, r4, r5, r6, r7, r8, r9, r10, r11) := H
           have A26 := Aside0.mk A260
           clear A260
           by_cases c27 : 1 < (a0.size : Int)
           ·rw [if_pos c27] at H
            have c27b0 : decide (1 < (a0.size : Int)) = true := decide_eq_true c27
            have c27b1 : decide (1 < a0.size) = true := decide_eq_true (by omega)
            clear c27
            replace H := Option.bind_eq_some_iff.mp H
            obtain ⟨t179, A290, H⟩ := H
            replace H : (if 8 < (a0.size : Int) then (if 9 < (a0.size : Int) then (if 20 ≤ t173 then (if t173 ≤ (a0.size : Int) then (some (wrap64 (bt a0 1), t179, ((Go.bits .and .i64 t174 16384) != 0), ((Go.bits .and .i64 t174 8192) != 0), Int.tmod t174 8192, wrap64 (bt a0 8), wrap64 (bt a0 9), (t175) % 4294967296, (t177) % 4294967296, a0.extract 20 (t173 : Int).toNat, none)) else (none)) else (none)) else (none)) else (none)) = some (r1, r2, r3, r4, r5, r6, r7, r8, r9, r10, r11) := H
            have A29 := Aside0.mk A290
            clear A290
            by_cases c30 : 8 < (a0.size : Int)
            ·rw [if_pos c30] at H
             have c30b0 : decide (8 < (a0.size : Int)) = true := decide_eq_true c30
             have c30b1 : decide (8 < a0.size) = true := decide_eq_true (by omega)
             clear c30
             by_cases c32 : 9 < (a0.size : Int)
             ·rw [if_pos c32] at H
              have c32b0 : decide (9 < (a0.size : Int)) = true := decide_eq_true c32
              have c32b1 : decide (9 < a0.size) = true := decide_eq_true (by omega)
              clear c32
              by_cases c34 : 20 ≤ t173
              ·rw [if_pos c34] at H
               have c34b0 := eq_true c34
               have c34b1 : decide (20 ≤ t173) = true := decide_eq_true c34
               clear c34
               by_cases c35 : t173 ≤ (a0.size : Int)
               ·rw [if_pos c35] at H
                have c35b0 := eq_true c35
                have c35b1 : decide (t173 ≤ (a0.size : Int)) = true := decide_eq_true c35
                clear c35
                simp only [Option.some.injEq, Prod.mk.injEq] at H
                obtain ⟨rfl, rfl, rfl, rfl, rfl, rfl, rfl, rfl, rfl, rfl, rfl⟩ := H
                try go_wp2_with (first | ((with_reducible refine gate_callee (f := 39) rfl ?_); refine goesL_ (some 59) rfl rfl Tryd.func39 (by kernel_rfl) rfl #[.string a0, .int .i64 12, .int .i64 4] rfl (by (try simp only [List.map_toArray, List.map_cons, List.map_nil]); first | done | rfl | (simp only [List.length_drop, List.length_take]; rfl)) ?_; (with_reducible refine (octets_Get.calls kj13 a0 12 4 t175 t176 _ A25.out).mono ?_); rintro e w36 ⟨rfl, hb⟩; refine ⟨_, rfl, ?_⟩; have n0_ := Aside0.mk (blk_below (g := gb168) (o := .cells #[.int .i64 0, .int .i64 0, .bool false, .bool false, .int .i64 0, .int .i64 0, .int .i64 0, .int .u32 0, .int .u32 0, .string (⟨#[]⟩ : ByteArray)] 24 (0, 0)) (by (with_reducible repeat (first | refine blk_drewN ?_ _ | refine blk_drew ?_ | refine blk_alloc ?_ _)); exact BK168.out) hb); have n1_ := Aside0.mk (below_step (by repeat (first | (with_reducible first | exact HB.out | apply below_alloc | apply pw_below_drewN | apply below_drew1 | refine below_set ?_ GE168.out) | exact HB.out)) hb); clear BK168; clear HB; have BK168 := n0_; have HB := n1_; clear n0_ n1_; have hcy1_168_0 := (show World.cell? _ ⟨gb168, 0, none⟩ = some (.int .i64 0) from (blk_cell BK168.out 0).trans rfl); have hcy1_168_1 := (show World.cell? _ ⟨gb168, 1, none⟩ = some (.int .i64 0) from (blk_cell BK168.out 1).trans rfl); have hcy1_168_2 := (show World.cell? _ ⟨gb168, 2, none⟩ = some (.bool false) from (blk_cell BK168.out 2).trans rfl); have hcy1_168_3 := (show World.cell? _ ⟨gb168, 3, none⟩ = some (.bool false) from (blk_cell BK168.out 3).trans rfl); have hcy1_168_4 := (show World.cell? _ ⟨gb168, 4, none⟩ = some (.int .i64 0) from (blk_cell BK168.out 4).trans rfl); have hcy1_168_5 := (show World.cell? _ ⟨gb168, 5, none⟩ = some (.int .i64 0) from (blk_cell BK168.out 5).trans rfl); have hcy1_168_6 := (show World.cell? _ ⟨gb168, 6, none⟩ = some (.int .i64 0) from (blk_cell BK168.out 6).trans rfl); have hcy1_168_7 := (show World.cell? _ ⟨gb168, 7, none⟩ = some (.int .u32 0) from (blk_cell BK168.out 7).trans rfl); have hcy1_168_8 := (show World.cell? _ ⟨gb168, 8, none⟩ = some (.int .u32 0) from (blk_cell BK168.out 8).trans rfl); have hcy1_168_9 := (show World.cell? _ ⟨gb168, 9, none⟩ = some (.string (⟨#[]⟩ : ByteArray)) from (blk_cell BK168.out 9).trans rfl); (try clear hb); (try clear hb2); (try clear hk); (try clear hi)) | ((with_reducible refine gate_callee (f := 39) rfl ?_); refine goesL_ (some 64) rfl rfl Tryd.func39 (by kernel_rfl) rfl #[.string a0, .int .i64 16, .int .i64 4] rfl (by (try simp only [List.map_toArray, List.map_cons, List.map_nil]); first | done | rfl | (simp only [List.length_drop, List.length_take]; rfl)) ?_; (with_reducible refine (octets_Get.calls kj13 a0 16 4 t177 t178 _ A26.out).mono ?_); rintro e w37 ⟨rfl, hb⟩; refine ⟨_, rfl, ?_⟩; have n0_ := Aside0.mk (blk_below (g := gb168) (o := .cells #[.int .i64 0, .int .i64 0, .bool false, .bool false, .int .i64 0, .int .i64 0, .int .i64 0, .int .u32 0, .int .u32 0, .string (⟨#[]⟩ : ByteArray)] 24 (0, 0)) (by (with_reducible repeat (first | refine blk_drewN ?_ _ | refine blk_drew ?_ | refine blk_alloc ?_ _)); exact BK168.out) hb); have n1_ := Aside0.mk (below_step (by repeat (first | (with_reducible first | exact HB.out | apply below_alloc | apply pw_below_drewN | apply below_drew1 | refine below_set ?_ GE168.out) | exact HB.out)) hb); clear BK168; clear HB; have BK168 := n0_; have HB := n1_; clear n0_ n1_; have hcy2_168_0 := (show World.cell? _ ⟨gb168, 0, none⟩ = some (.int .i64 0) from (blk_cell BK168.out 0).trans rfl); have hcy2_168_1 := (show World.cell? _ ⟨gb168, 1, none⟩ = some (.int .i64 0) from (blk_cell BK168.out 1).trans rfl); have hcy2_168_2 := (show World.cell? _ ⟨gb168, 2, none⟩ = some (.bool false) from (blk_cell BK168.out 2).trans rfl); have hcy2_168_3 := (show World.cell? _ ⟨gb168, 3, none⟩ = some (.bool false) from (blk_cell BK168.out 3).trans rfl); have hcy2_168_4 := (show World.cell? _ ⟨gb168, 4, none⟩ = some (.int .i64 0) from (blk_cell BK168.out 4).trans rfl); have hcy2_168_5 := (show World.cell? _ ⟨gb168, 5, none⟩ = some (.int .i64 0) from (blk_cell BK168.out 5).trans rfl); have hcy2_168_6 := (show World.cell? _ ⟨gb168, 6, none⟩ = some (.int .i64 0) from (blk_cell BK168.out 6).trans rfl); have hcy2_168_7 := (show World.cell? _ ⟨gb168, 7, none⟩ = some (.int .u32 0) from (blk_cell BK168.out 7).trans rfl); have hcy2_168_8 := (show World.cell? _ ⟨gb168, 8, none⟩ = some (.int .u32 0) from (blk_cell BK168.out 8).trans rfl); have hcy2_168_9 := (show World.cell? _ ⟨gb168, 9, none⟩ = some (.string (⟨#[]⟩ : ByteArray)) from (blk_cell BK168.out 9).trans rfl); (try clear hb); (try clear hb2); (try clear hk); (try clear hi)))
                have n0_ := Aside0.mk (blk_drew BK168.out)
                have n1_ := Aside0.mk (below_drew1 HB.out)
                clear BK168
                clear HB
                have BK168 := n0_
                have HB := n1_
                clear n0_ n1_
                have p28 : 0 ≤ (1 : Int) := (by omega)
                have q28 : 1 < a0.size := (by have : (1 : Int) < (a0.size : Int) := of_decide_eq_true (by first | (with_reducible assumption) | assumption); omega)
                have hx28 : ∀ h : 1 < a0.size, ((a0[1]'h).toNat : Int) = bt a0 1 := bt_at a0 1
                clear p28
                have qi28 : (1 < (a0.size : Int)) = True := eq_true (of_decide_eq_true (by first | (with_reducible assumption) | assumption))
                replace q28 := eq_true q28
                have p31 : 0 ≤ (8 : Int) := (by omega)
                have q31 : 8 < a0.size := (by have : (8 : Int) < (a0.size : Int) := of_decide_eq_true (by first | (with_reducible assumption) | assumption); omega)
                have hx31 : ∀ h : 8 < a0.size, ((a0[8]'h).toNat : Int) = bt a0 8 := bt_at a0 8
                clear p31
                have qi31 : (8 < (a0.size : Int)) = True := eq_true (of_decide_eq_true (by first | (with_reducible assumption) | assumption))
                replace q31 := eq_true q31
                have p33 : 0 ≤ (9 : Int) := (by omega)
                have q33 : 9 < a0.size := (by have : (9 : Int) < (a0.size : Int) := of_decide_eq_true (by first | (with_reducible assumption) | assumption); omega)
                have hx33 : ∀ h : 9 < a0.size, ((a0[9]'h).toNat : Int) = bt a0 9 := bt_at a0 9
                clear p33
                have qi33 : (9 < (a0.size : Int)) = True := eq_true (of_decide_eq_true (by first | (with_reducible assumption) | assumption))
                replace q33 := eq_true q33
                refine start_ (n := 22) (S := fun w' => True) (ds := []) #[false, false, false, false, false, false, false, false, false, false, false, false, false, false, false, false, false, false, false, false, false, false] (by kernel_rfl) rfl rfl trivial (fun hHeld => ?_); refine with_tabW inet_read.tab14 inet_read.bits14 (fun HT_ HW_ => ?_)
                generalize w37.drew = w38 at BK168 HB hHeld ⊢
                refine pure_ (i := 0) (N := some 67) (v := ?_) (a' := ?_) #[true, false, false, false, false, false, false, false, false, false, false, false, false, false, false, false, false, false, false, false, false, false] rfl rfl (any_of HT_.out (by kernel_rfl)) (fun _ _ _ h => h) (Or.inl ⟨by rfl, ?_⟩) ?_ ?_
                rotate_left
                ·intro w'
                 go_simp
                 with_reducible rfl
                rotate_left
                ·simp only [Act.put, List.setIfInBounds_toArray, List.set_cons_zero, List.set_cons_succ, i64_w, i32_w]
                 rfl
                refine pure_ (i := 3) (N := some 70) (v := ?_) (a' := ?_) #[true, false, false, true, false, false, false, false, false, false, false, false, false, false, false, false, false, false, false, false, false, false] rfl rfl (any_of HT_.out (by kernel_rfl)) (fun _ _ _ h => h) (Or.inl ⟨by rfl, ?_⟩) ?_ ?_
                rotate_left
                ·intro w'
                 go_simp
                 with_reducible rfl
                rotate_left
                ·simp only [Act.put, List.setIfInBounds_toArray, List.set_cons_zero, List.set_cons_succ, i64_w, i32_w]
                 rfl
                refine pure_ (i := 5) (N := some 72) (v := ?_) (a' := ?_) #[true, false, false, true, false, true, false, false, false, false, false, false, false, false, false, false, false, false, false, false, false, false] rfl rfl (any_of HT_.out (by kernel_rfl)) (fun _ _ _ h => h) (Or.inl ⟨by rfl, ?_⟩) ?_ ?_
                rotate_left
                ·intro w'
                 go_simp
                 with_reducible rfl
                rotate_left
                ·simp only [Act.put, List.setIfInBounds_toArray, List.set_cons_zero, List.set_cons_succ, i64_w, i32_w]
                 rfl
                refine pure_ (i := 6) (N := some 73) (v := ?_) (a' := ?_) #[true, false, false, true, false, true, true, false, false, false, false, false, false, false, false, false, false, false, false, false, false, false] rfl rfl (any_of HT_.out (by kernel_rfl)) (fun _ _ _ h => h) (Or.inl ⟨by rfl, ?_⟩) ?_ ?_
                rotate_left
                ·intro w'
                 go_simp
                 with_reducible rfl
                rotate_left
                ·simp only [Act.put, List.setIfInBounds_toArray, List.set_cons_zero, List.set_cons_succ, i64_w, i32_w]
                 rfl
                refine pure_ (i := 7) (N := some 74) (v := ?_) (a' := ?_) #[true, false, false, true, false, true, true, true, false, false, false, false, false, false, false, false, false, false, false, false, false, false] rfl rfl (any_of HT_.out (by kernel_rfl)) (fun _ _ _ h => h) (Or.inl ⟨by rfl, ?_⟩) ?_ ?_
                rotate_left
                ·intro w'
                 go_simp
                 with_reducible rfl
                rotate_left
                ·simp only [Act.put, List.setIfInBounds_toArray, List.set_cons_zero, List.set_cons_succ, i64_w, i32_w]
                 rfl
                refine pure_ (i := 8) (N := some 75) (v := ?_) (a' := ?_) #[true, false, false, true, false, true, true, true, true, false, false, false, false, false, false, false, false, false, false, false, false, false] rfl rfl (any_of HT_.out (by kernel_rfl)) (fun _ _ _ h => h) (Or.inl ⟨by rfl, ?_⟩) ?_ ?_
                rotate_left
                ·intro w'
                 go_simp
                 with_reducible rfl
                rotate_left
                ·simp only [Act.put, List.setIfInBounds_toArray, List.set_cons_zero, List.set_cons_succ, i64_w, i32_w]
                 rfl
                refine pure_ (i := 9) (N := some 76) (v := ?_) (a' := ?_) #[true, false, false, true, false, true, true, true, true, true, false, false, false, false, false, false, false, false, false, false, false, false] rfl rfl (any_of HT_.out (by kernel_rfl)) (fun _ _ _ h => h) (Or.inl ⟨by rfl, ?_⟩) ?_ ?_
                rotate_left
                ·intro w'
                 go_simp
                 with_reducible rfl
                rotate_left
                ·simp only [Act.put, List.setIfInBounds_toArray, List.set_cons_zero, List.set_cons_succ, i64_w, i32_w]
                 rfl
                refine pure_ (i := 10) (N := some 77) (v := ?_) (a' := ?_) #[true, false, false, true, false, true, true, true, true, true, true, false, false, false, false, false, false, false, false, false, false, false] rfl rfl (any_of HT_.out (by kernel_rfl)) (fun _ _ _ h => h) (Or.inl ⟨by rfl, ?_⟩) ?_ ?_
                rotate_left
                ·intro w'
                 go_simp
                 with_reducible rfl
                rotate_left
                ·simp only [Act.put, List.setIfInBounds_toArray, List.set_cons_zero, List.set_cons_succ, i64_w, i32_w]
                 rfl
                refine pure_ (i := 11) (N := some 78) (v := ?_) (a' := ?_) #[true, false, false, true, false, true, true, true, true, true, true, true, false, false, false, false, false, false, false, false, false, false] rfl rfl (any_of HT_.out (by kernel_rfl)) (fun _ _ _ h => h) (Or.inl ⟨by rfl, ?_⟩) ?_ ?_
                rotate_left
                ·intro w'
                 go_simp
                 with_reducible rfl
                rotate_left
                ·simp only [Act.put, List.setIfInBounds_toArray, List.set_cons_zero, List.set_cons_succ, i64_w, i32_w]
                 rfl
                refine pure_ (i := 12) (N := some 79) (v := ?_) (a' := ?_) #[true, false, false, true, false, true, true, true, true, true, true, true, true, false, false, false, false, false, false, false, false, false] rfl rfl (any_of HT_.out (by kernel_rfl)) (fun _ _ _ h => h) (Or.inl ⟨by rfl, ?_⟩) ?_ ?_
                rotate_left
                ·intro w'
                 go_simp
                 with_reducible rfl
                rotate_left
                ·simp only [Act.put, List.setIfInBounds_toArray, List.set_cons_zero, List.set_cons_succ, i64_w, i32_w]
                 rfl
                refine pure_ (i := 13) (N := some 80) (v := ?_) (a' := ?_) #[true, false, false, true, false, true, true, true, true, true, true, true, true, true, false, false, false, false, false, false, false, false] rfl rfl (any_of HT_.out (by kernel_rfl)) (fun _ _ _ h => h) (Or.inl ⟨by rfl, ?_⟩) ?_ ?_
                rotate_left
                ·intro w'
                 go_simp
                 with_reducible rfl
                rotate_left
                ·simp only [Act.put, List.setIfInBounds_toArray, List.set_cons_zero, List.set_cons_succ, i64_w, i32_w]
                 rfl
                refine pure_ (i := 16) (N := some 83) (v := ?_) (a' := ?_) #[true, false, false, true, false, true, true, true, true, true, true, true, true, true, false, false, true, false, false, false, false, false] rfl rfl (any_of HT_.out (by kernel_rfl)) (fun _ _ _ h => h) (Or.inl ⟨by rfl, ?_⟩) ?_ ?_
                rotate_left
                ·intro w'
                 go_simp
                 with_reducible rfl
                rotate_left
                ·simp only [Act.put, List.setIfInBounds_toArray, List.set_cons_zero, List.set_cons_succ, i64_w, i32_w]
                 rfl
                refine take_ (i := 1) (N := some 68) (v := ?_) (a' := ?_) #[true, true, false, true, false, true, true, true, true, true, true, true, true, true, false, false, true, false, false, false, false, false] rfl rfl (take_ofW HT_.out HW_.out (by kernel_rfl)) (fun _ _ _ h => h) (Or.inl ⟨by rfl, ?_⟩) hHeld ?_ ?_
                rotate_left
                ·intro w' _
                 go_simp
                 with_reducible rfl
                rotate_left
                ·simp only [Act.put, List.setIfInBounds_toArray, List.set_cons_zero, List.set_cons_succ, i64_w, i32_w]
                 rfl
                refine pure_ (i := 2) (N := some 69) (v := ?_) (a' := ?_) #[true, true, true, true, false, true, true, true, true, true, true, true, true, true, false, false, true, false, false, false, false, false] rfl rfl (any_of HT_.out (by kernel_rfl)) (fun _ _ _ h => h) (Or.inl ⟨by rfl, ?_⟩) ?_ ?_
                rotate_left
                ·intro w'
                 go_simp
                 with_reducible rfl
                rotate_left
                ·simp only [Act.put, List.setIfInBounds_toArray, List.set_cons_zero, List.set_cons_succ, i64_w, i32_w]
                 rfl
                refine take_ (i := 14) (N := some 81) (v := ?_) (a' := ?_) #[true, true, true, true, false, true, true, true, true, true, true, true, true, true, true, false, true, false, false, false, false, false] rfl rfl (take_ofW HT_.out HW_.out (by kernel_rfl)) (fun _ _ _ h => h) (Or.inl ⟨by rfl, ?_⟩) hHeld ?_ ?_
                rotate_left
                ·intro w' _
                 go_simp
                 with_reducible rfl
                rotate_left
                ·simp only [Act.put, List.setIfInBounds_toArray, List.set_cons_zero, List.set_cons_succ, i64_w, i32_w]
                 rfl
                refine pure_ (i := 15) (N := some 82) (v := ?_) (a' := ?_) #[true, true, true, true, false, true, true, true, true, true, true, true, true, true, true, true, true, false, false, false, false, false] rfl rfl (any_of HT_.out (by kernel_rfl)) (fun _ _ _ h => h) (Or.inl ⟨by rfl, ?_⟩) ?_ ?_
                rotate_left
                ·intro w'
                 go_simp
                 with_reducible rfl
                rotate_left
                ·simp only [Act.put, List.setIfInBounds_toArray, List.set_cons_zero, List.set_cons_succ, i64_w, i32_w]
                 rfl
                refine take_ (i := 17) (N := some 84) (v := ?_) (a' := ?_) #[true, true, true, true, false, true, true, true, true, true, true, true, true, true, true, true, true, true, false, false, false, false] rfl rfl (take_ofW HT_.out HW_.out (by kernel_rfl)) (fun _ _ _ h => h) (Or.inl ⟨by rfl, ?_⟩) hHeld ?_ ?_
                rotate_left
                ·intro w' _
                 go_simp
                 with_reducible rfl
                rotate_left
                ·simp only [Act.put, List.setIfInBounds_toArray, List.set_cons_zero, List.set_cons_succ, i64_w, i32_w]
                 rfl
                refine pure_ (i := 18) (N := some 85) (v := ?_) (a' := ?_) #[true, true, true, true, false, true, true, true, true, true, true, true, true, true, true, true, true, true, true, false, false, false] rfl rfl (any_of HT_.out (by kernel_rfl)) (fun _ _ _ h => h) (Or.inl ⟨by rfl, ?_⟩) ?_ ?_
                rotate_left
                ·intro w'
                 go_simp
                 with_reducible rfl
                rotate_left
                ·simp only [Act.put, List.setIfInBounds_toArray, List.set_cons_zero, List.set_cons_succ, i64_w, i32_w]
                 rfl
                refine join_ (σ := Nat) 1 #[true, true, true, true, true, true, true, true, true, true, true, true, true, true, true, true, true, true, true, true, true, false] (fun s_ => [(71, .int .i64 t179), (10, .pointer (some ⟨s_, 0, none⟩)), (86, .agg #[.int .i64 (wrap64 (bt a0 1)), .int .i64 t179, .bool ((Go.bits .and .i64 t174 16384) != 0), .bool ((Go.bits .and .i64 t174 8192) != 0), .int .i64 (Int.tmod t174 8192), .int .i64 (wrap64 (bt a0 8)), .int .i64 (wrap64 (bt a0 9)), .int .u32 0, .int .u32 0, .string (⟨#[]⟩ : ByteArray)])]) (fun s_ w' => (w'.heap[gb168]? = some (.cells #[.int .i64 0, .int .i64 0, .bool false, .bool false, .int .i64 0, .int .i64 0, .int .i64 0, .int .u32 0, .int .u32 0, .string (⟨#[]⟩ : ByteArray)] 24 (0, 0))) ∧ (w'.heap[s_]? = some (.cells #[.int .i64 0, .int .i64 0, .bool false, .bool false, .int .i64 0, .int .i64 0, .int .i64 0, .int .u32 0, .int .u32 0, .string (⟨#[]⟩ : ByteArray)] 24 (0, 0))) ∧ (w.heap.size ≤ s_) ∧ (w.heap.size ≤ s_) ∧ (gb168 ≠ s_) ∧ (s_ ≠ gb168) ∧ (Below w.heap.size w w')) ?_ ?_
                rotate_left
                ·intro hCont
                 refine two_ (i := 4) (j := 20) (Ni := some 71) (Nj := some 10) #[true, true, true, true, true, true, true, true, true, true, true, true, true, true, true, true, true, true, true, false, false, false] #[true, true, true, true, false, true, true, true, true, true, true, true, true, true, true, true, true, true, true, false, true, false] rfl rfl rfl rfl (two_of HT_.out (by kernel_rfl)) (by decide) (by decide) (fun K hK => ?_) (fun K hK => ?_)
                 ·skip
                  refine goes_ Tryd.func31 (by kernel_rfl) rfl #[.string a0, .int .i64 4] (by first | rfl | exact wanted_on rfl rfl rfl (by first | rfl | (simp [*]; done) | (simp [*, IntKind.wrap_u32]; done))) rfl rfl (by (try simp only [List.map_toArray, List.map_cons, List.map_nil]); first | done | rfl | (simp only [List.length_drop, List.length_take]; rfl)) ?_
                  with_reducible refine (inet_get.calls a0 4 t179 _ A29.out).mono ?_
                  rintro e w' ⟨rfl, ⟨nd, rfl⟩⟩
                  refine ⟨_, rfl, ?_⟩
                  refine hK.out _ _ trivial (fun hHeld => ?_)
                  clear hK K
                  refine norm_ (a' := ?_) ?_ ?_
                  rotate_left
                  ·show Act.put _ (some 71) _ = _
                   simp only [Act.put, List.setIfInBounds_toArray, List.set_cons_zero, List.set_cons_succ, i64_w, i32_w]
                   rfl
                  refine pure_ (i := 19) (N := some 86) (v := ?_) (a' := ?_) #[true, true, true, true, true, true, true, true, true, true, true, true, true, true, true, true, true, true, true, true, false, false] rfl rfl (any_of HT_.out (by kernel_rfl)) (fun _ _ _ h => h) (Or.inl ⟨by rfl, ?_⟩) ?_ ?_
                  rotate_left
                  ·intro w'
                   go_simp
                   with_reducible rfl
                  rotate_left
                  ·simp only [Act.put, List.setIfInBounds_toArray, List.set_cons_zero, List.set_cons_succ, i64_w, i32_w]
                   rfl
                  refine one_ (i := 20) (N := some 10) #[true, true, true, true, true, true, true, true, true, true, true, true, true, true, true, true, true, true, true, true, true, false] rfl rfl (one_of HT_.out (by kernel_rfl)) (by decide) (fun K hK => ?_)
                  refine box_step ?hg (N := 10) ?hd (cs := #[.int .i64 0, .int .i64 0, .bool false, .bool false, .int .i64 0, .int .i64 0, .int .i64 0, .int .u32 0, .int .u32 0, .string (⟨#[]⟩ : ByteArray)]) (t := 24) ?hr ?_; (case hd => rfl); (case hg => rfl); (case hr => first | (go_simp; done) | (go_simp; rfl))
                  intro gb180 hg w39 hbox hb
                  have n0_ := Aside0.mk (blk_below (g := gb168) (o := .cells #[.int .i64 0, .int .i64 0, .bool false, .bool false, .int .i64 0, .int .i64 0, .int .i64 0, .int .u32 0, .int .u32 0, .string (⟨#[]⟩ : ByteArray)] 24 (0, 0)) (by (with_reducible repeat (first | refine blk_drewN ?_ _ | refine blk_drew ?_ | refine blk_alloc ?_ _)); exact BK168.out) hb)
                  have n1_ := Aside0.mk (below_step (by repeat (first | (with_reducible first | exact HB.out | apply below_alloc | apply pw_below_drewN | apply below_drew1 | refine below_set ?_ GE168.out) | exact HB.out)) hb)
                  have n2_ := Aside0.mk (hbox)
                  have n3_ := Aside0.mk ((by rw [hg]; exact (below_size (by repeat (first | (with_reducible first | exact HB.out | apply below_alloc | apply pw_below_drewN | apply below_drew1 | refine below_set ?_ GE168.out) | exact HB.out))) : w.heap.size ≤ gb180))
                  have n4_ := Aside0.mk ((by rw [hg]; exact (below_size (by repeat (first | (with_reducible first | exact HB.out | apply below_alloc | apply pw_below_drewN | apply below_drew1 | refine below_set ?_ GE168.out) | exact HB.out))) : w.heap.size ≤ gb180))
                  have n5_ := Aside0.mk ((by rw [hg]; exact Nat.ne_of_lt (blk_lt (g := gb168) (o := .cells #[.int .i64 0, .int .i64 0, .bool false, .bool false, .int .i64 0, .int .i64 0, .int .i64 0, .int .u32 0, .int .u32 0, .string (⟨#[]⟩ : ByteArray)] 24 (0, 0)) (by (with_reducible repeat (first | refine blk_drewN ?_ _ | refine blk_drew ?_ | refine blk_alloc ?_ _)); exact BK168.out)) : gb168 ≠ gb180))
                  have n6_ := Aside0.mk ((by rw [hg]; exact Nat.ne_of_gt (blk_lt (g := gb168) (o := .cells #[.int .i64 0, .int .i64 0, .bool false, .bool false, .int .i64 0, .int .i64 0, .int .i64 0, .int .u32 0, .int .u32 0, .string (⟨#[]⟩ : ByteArray)] 24 (0, 0)) (by (with_reducible repeat (first | refine blk_drewN ?_ _ | refine blk_drew ?_ | refine blk_alloc ?_ _)); exact BK168.out)) : gb180 ≠ gb168))
                  clear BK168
                  clear HB
                  have BK168 := n0_
                  have HB := n1_
                  have BK180 := n2_
                  have GW180 := n3_
                  have GE180 := n4_
                  have NB168_180 := n5_
                  have NB180_168 := n6_
                  clear n0_ n1_ n2_ n3_ n4_ n5_ n6_
                  clear hb hbox hg
                  refine hK.out _ _ trivial (fun hHeld => ?_)
                  clear hK K
                  refine norm_ (a' := ?_) ?_ ?_
                  rotate_left
                  ·show Act.put _ (some 10) _ = _
                   simp only [Act.put, List.setIfInBounds_toArray, List.set_cons_zero, List.set_cons_succ, i64_w, i32_w]
                   rfl
                  exact norm_ (by simp only [putAll, Act.put, List.setIfInBounds_toArray, List.set_cons_zero, List.set_cons_succ]) (hCont (gb180) _ ⟨(by (with_reducible repeat (first | refine blk_drewN ?_ _ | refine blk_drew ?_ | refine blk_alloc ?_ _)); exact BK168.out), (by (with_reducible repeat (first | refine blk_drewN ?_ _ | refine blk_drew ?_ | refine blk_alloc ?_ _)); exact BK180.out), GW180.out, GE180.out, NB168_180.out, NB180_168.out, (by repeat (first | (with_reducible first | exact HB.out | apply below_alloc | apply pw_below_drewN | apply below_drew1 | refine below_set ?_ GE168.out | refine below_set ?_ GE180.out) | exact HB.out))⟩)
                 ·skip
                  refine box_step ?hg (N := 10) ?hd (cs := #[.int .i64 0, .int .i64 0, .bool false, .bool false, .int .i64 0, .int .i64 0, .int .i64 0, .int .u32 0, .int .u32 0, .string (⟨#[]⟩ : ByteArray)]) (t := 24) ?hr ?_; (case hd => rfl); (case hg => rfl); (case hr => first | (go_simp; done) | (go_simp; rfl))
                  intro gb180 hg w39 hbox hb
                  have n0_ := Aside0.mk (blk_below (g := gb168) (o := .cells #[.int .i64 0, .int .i64 0, .bool false, .bool false, .int .i64 0, .int .i64 0, .int .i64 0, .int .u32 0, .int .u32 0, .string (⟨#[]⟩ : ByteArray)] 24 (0, 0)) (by (with_reducible repeat (first | refine blk_drewN ?_ _ | refine blk_drew ?_ | refine blk_alloc ?_ _)); exact BK168.out) hb)
                  have n1_ := Aside0.mk (below_step (by repeat (first | (with_reducible first | exact HB.out | apply below_alloc | apply pw_below_drewN | apply below_drew1 | refine below_set ?_ GE168.out) | exact HB.out)) hb)
                  have n2_ := Aside0.mk (hbox)
                  have n3_ := Aside0.mk ((by rw [hg]; exact (below_size (by repeat (first | (with_reducible first | exact HB.out | apply below_alloc | apply pw_below_drewN | apply below_drew1 | refine below_set ?_ GE168.out) | exact HB.out))) : w.heap.size ≤ gb180))
                  have n4_ := Aside0.mk ((by rw [hg]; exact (below_size (by repeat (first | (with_reducible first | exact HB.out | apply below_alloc | apply pw_below_drewN | apply below_drew1 | refine below_set ?_ GE168.out) | exact HB.out))) : w.heap.size ≤ gb180))
                  have n5_ := Aside0.mk ((by rw [hg]; exact Nat.ne_of_lt (blk_lt (g := gb168) (o := .cells #[.int .i64 0, .int .i64 0, .bool false, .bool false, .int .i64 0, .int .i64 0, .int .i64 0, .int .u32 0, .int .u32 0, .string (⟨#[]⟩ : ByteArray)] 24 (0, 0)) (by (with_reducible repeat (first | refine blk_drewN ?_ _ | refine blk_drew ?_ | refine blk_alloc ?_ _)); exact BK168.out)) : gb168 ≠ gb180))
                  have n6_ := Aside0.mk ((by rw [hg]; exact Nat.ne_of_gt (blk_lt (g := gb168) (o := .cells #[.int .i64 0, .int .i64 0, .bool false, .bool false, .int .i64 0, .int .i64 0, .int .i64 0, .int .u32 0, .int .u32 0, .string (⟨#[]⟩ : ByteArray)] 24 (0, 0)) (by (with_reducible repeat (first | refine blk_drewN ?_ _ | refine blk_drew ?_ | refine blk_alloc ?_ _)); exact BK168.out)) : gb180 ≠ gb168))
                  clear BK168
                  clear HB
                  have BK168 := n0_
                  have HB := n1_
                  have BK180 := n2_
                  have GW180 := n3_
                  have GE180 := n4_
                  have NB168_180 := n5_
                  have NB180_168 := n6_
                  clear n0_ n1_ n2_ n3_ n4_ n5_ n6_
                  clear hb hbox hg
                  refine hK.out _ _ trivial (fun hHeld => ?_)
                  clear hK K
                  refine norm_ (a' := ?_) ?_ ?_
                  rotate_left
                  ·show Act.put _ (some 10) _ = _
                   simp only [Act.put, List.setIfInBounds_toArray, List.set_cons_zero, List.set_cons_succ, i64_w, i32_w]
                   rfl
                  refine one_ (i := 4) (N := some 71) #[true, true, true, true, true, true, true, true, true, true, true, true, true, true, true, true, true, true, true, false, true, false] rfl rfl (one_of HT_.out (by kernel_rfl)) (by decide) (fun K hK => ?_)
                  refine goes_ Tryd.func31 (by kernel_rfl) rfl #[.string a0, .int .i64 4] (by first | rfl | exact wanted_on rfl rfl rfl (by first | rfl | (simp [*]; done) | (simp [*, IntKind.wrap_u32]; done))) rfl rfl (by (try simp only [List.map_toArray, List.map_cons, List.map_nil]); first | done | rfl | (simp only [List.length_drop, List.length_take]; rfl)) ?_
                  with_reducible refine (inet_get.calls a0 4 t179 _ A29.out).mono ?_
                  rintro e w' ⟨rfl, ⟨nd, rfl⟩⟩
                  refine ⟨_, rfl, ?_⟩
                  refine hK.out _ _ trivial (fun hHeld => ?_)
                  clear hK K
                  refine norm_ (a' := ?_) ?_ ?_
                  rotate_left
                  ·show Act.put _ (some 71) _ = _
                   simp only [Act.put, List.setIfInBounds_toArray, List.set_cons_zero, List.set_cons_succ, i64_w, i32_w]
                   rfl
                  refine pure_ (i := 19) (N := some 86) (v := ?_) (a' := ?_) #[true, true, true, true, true, true, true, true, true, true, true, true, true, true, true, true, true, true, true, true, true, false] rfl rfl (any_of HT_.out (by kernel_rfl)) (fun _ _ _ h => h) (Or.inl ⟨by rfl, ?_⟩) ?_ ?_
                  rotate_left
                  ·intro w'
                   go_simp
                   with_reducible rfl
                  rotate_left
                  ·simp only [Act.put, List.setIfInBounds_toArray, List.set_cons_zero, List.set_cons_succ, i64_w, i32_w]
                   rfl
                  exact norm_ (by simp only [putAll, Act.put, List.setIfInBounds_toArray, List.set_cons_zero, List.set_cons_succ]) (hCont (gb180) _ ⟨(by (with_reducible repeat (first | refine blk_drewN ?_ _ | refine blk_drew ?_ | refine blk_alloc ?_ _)); exact BK168.out), (by (with_reducible repeat (first | refine blk_drewN ?_ _ | refine blk_drew ?_ | refine blk_alloc ?_ _)); exact BK180.out), GW180.out, GE180.out, NB168_180.out, NB180_168.out, (by repeat (first | (with_reducible first | exact HB.out | apply below_alloc | apply pw_below_drewN | apply below_drew1 | refine below_set ?_ GE168.out | refine below_set ?_ GE180.out) | exact HB.out))⟩)
                rintro gb180 w40 ⟨h0_, h1_, h2_, h3_, h4_, h5_, h6_⟩
                have n0_ : Aside0 (w40.heap[gb168]? = some (.cells #[.int .i64 0, .int .i64 0, .bool false, .bool false, .int .i64 0, .int .i64 0, .int .i64 0, .int .u32 0, .int .u32 0, .string (⟨#[]⟩ : ByteArray)] 24 (0, 0))) := ⟨h0_⟩
                have n1_ : Aside0 (w40.heap[gb180]? = some (.cells #[.int .i64 0, .int .i64 0, .bool false, .bool false, .int .i64 0, .int .i64 0, .int .i64 0, .int .u32 0, .int .u32 0, .string (⟨#[]⟩ : ByteArray)] 24 (0, 0))) := ⟨h1_⟩
                have n2_ : Aside0 (w.heap.size ≤ gb180) := ⟨h2_⟩
                have n3_ : Aside0 (w.heap.size ≤ gb180) := ⟨h3_⟩
                have n4_ : Aside0 (gb168 ≠ gb180) := ⟨h4_⟩
                have n5_ : Aside0 (gb180 ≠ gb168) := ⟨h5_⟩
                have n6_ : Aside0 (Below w.heap.size w w40) := ⟨h6_⟩
                clear BK168
                clear HB
                clear h0_ h1_ h2_ h3_ h4_ h5_ h6_
                have BK168 := n0_
                have BK180 := n1_
                have GW180 := n2_
                have GE180 := n3_
                have NB168_180 := n4_
                have NB180_168 := n5_
                have HB := n6_
                clear n0_ n1_ n2_ n3_ n4_ n5_ n6_
                have hHeld := trivial
                refine norm_ (a' := ?_) ?_ ?_
                rotate_left
                ·simp only [putAll, Act.put, List.setIfInBounds_toArray, List.set_cons_zero, List.set_cons_succ]
                 rfl
                refine one_ (i := 21) (N := none) #[true, true, true, true, true, true, true, true, true, true, true, true, true, true, true, true, true, true, true, true, true, true] rfl rfl (one_of HT_.out (by kernel_rfl)) (by decide) (fun K hK => ?_)
                have hs41 : w40.cell? ⟨gb180, 0, none⟩ = some (.int .i64 0) := (blk_cell BK180.out 0).trans rfl
                have hfs41 := blk_frozen BK180.out 0
                have hns41_0 := NB168_180.out
                have hms41_0 := NB180_168.out
                have hs42 : w40.cell? ⟨gb180, 1, none⟩ = some (.int .i64 0) := (blk_cell BK180.out 1).trans rfl
                have hfs42 := blk_frozen BK180.out 1
                have hns42_0 := NB168_180.out
                have hms42_0 := NB180_168.out
                have hs43 : w40.cell? ⟨gb180, 2, none⟩ = some (.bool false) := (blk_cell BK180.out 2).trans rfl
                have hfs43 := blk_frozen BK180.out 2
                have hns43_0 := NB168_180.out
                have hms43_0 := NB180_168.out
                have hs44 : w40.cell? ⟨gb180, 3, none⟩ = some (.bool false) := (blk_cell BK180.out 3).trans rfl
                have hfs44 := blk_frozen BK180.out 3
                have hns44_0 := NB168_180.out
                have hms44_0 := NB180_168.out
                have hs45 : w40.cell? ⟨gb180, 4, none⟩ = some (.int .i64 0) := (blk_cell BK180.out 4).trans rfl
                have hfs45 := blk_frozen BK180.out 4
                have hns45_0 := NB168_180.out
                have hms45_0 := NB180_168.out
                have hs46 : w40.cell? ⟨gb180, 5, none⟩ = some (.int .i64 0) := (blk_cell BK180.out 5).trans rfl
                have hfs46 := blk_frozen BK180.out 5
                have hns46_0 := NB168_180.out
                have hms46_0 := NB180_168.out
                have hs47 : w40.cell? ⟨gb180, 6, none⟩ = some (.int .i64 0) := (blk_cell BK180.out 6).trans rfl
                have hfs47 := blk_frozen BK180.out 6
                have hns47_0 := NB168_180.out
                have hms47_0 := NB180_168.out
                have hs48 : w40.cell? ⟨gb180, 7, none⟩ = some (.int .u32 0) := (blk_cell BK180.out 7).trans rfl
                have hfs48 := blk_frozen BK180.out 7
                have hns48_0 := NB168_180.out
                have hms48_0 := NB180_168.out
                have hs49 : w40.cell? ⟨gb180, 8, none⟩ = some (.int .u32 0) := (blk_cell BK180.out 8).trans rfl
                have hfs49 := blk_frozen BK180.out 8
                have hns49_0 := NB168_180.out
                have hms49_0 := NB180_168.out
                have hs50 : w40.cell? ⟨gb180, 9, none⟩ = some (.string (⟨#[]⟩ : ByteArray)) := (blk_cell BK180.out 9).trans rfl
                have hfs50 := blk_frozen BK180.out 9
                have hns50_0 := NB168_180.out
                have hms50_0 := NB180_168.out
                refine skip_ (w1 := ?_) (by rfl) rfl ?_ ?_
                rotate_left
                ·go_simp
                 rfl
                refine hK.out _ _ trivial (fun hHeld => ?_)
                clear hK K
                refine done_ (done_of HT_.out (by kernel_rfl)) ?_
                try go_wp2
                have n0_ : Aside0 (((((((((((w40.setCell ⟨gb180, 0, none⟩ (.int .i64 (wrap64 (bt a0 1)))).setCell ⟨gb180, 1, none⟩ (.int .i64 t179)).setCell ⟨gb180, 2, none⟩ (.bool ((Go.bits .and .i64 t174 16384) != 0))).setCell ⟨gb180, 3, none⟩ (.bool ((Go.bits .and .i64 t174 8192) != 0))).setCell ⟨gb180, 4, none⟩ (.int .i64 (Int.tmod t174 8192))).setCell ⟨gb180, 5, none⟩ (.int .i64 (wrap64 (bt a0 8)))).setCell ⟨gb180, 6, none⟩ (.int .i64 (wrap64 (bt a0 9)))).setCell ⟨gb180, 7, none⟩ (.int .u32 0)).setCell ⟨gb180, 8, none⟩ (.int .u32 0)).setCell ⟨gb180, 9, none⟩ (.string (⟨#[]⟩ : ByteArray))).heap[gb168]? = some (.cells #[.int .i64 0, .int .i64 0, .bool false, .bool false, .int .i64 0, .int .i64 0, .int .i64 0, .int .u32 0, .int .u32 0, .string (⟨#[]⟩ : ByteArray)] 24 (0, 0))) := ⟨by (with_reducible repeat (first | refine blk_drewN ?_ _ | refine blk_drew ?_ | refine blk_alloc ?_ _)); refine blk_far ?_ NB168_180.out _; (with_reducible repeat (first | refine blk_drewN ?_ _ | refine blk_drew ?_ | refine blk_alloc ?_ _)); refine blk_far ?_ NB168_180.out _; (with_reducible repeat (first | refine blk_drewN ?_ _ | refine blk_drew ?_ | refine blk_alloc ?_ _)); refine blk_far ?_ NB168_180.out _; (with_reducible repeat (first | refine blk_drewN ?_ _ | refine blk_drew ?_ | refine blk_alloc ?_ _)); refine blk_far ?_ NB168_180.out _; (with_reducible repeat (first | refine blk_drewN ?_ _ | refine blk_drew ?_ | refine blk_alloc ?_ _)); refine blk_far ?_ NB168_180.out _; (with_reducible repeat (first | refine blk_drewN ?_ _ | refine blk_drew ?_ | refine blk_alloc ?_ _)); refine blk_far ?_ NB168_180.out _; (with_reducible repeat (first | refine blk_drewN ?_ _ | refine blk_drew ?_ | refine blk_alloc ?_ _)); refine blk_far ?_ NB168_180.out _; (with_reducible repeat (first | refine blk_drewN ?_ _ | refine blk_drew ?_ | refine blk_alloc ?_ _)); refine blk_far ?_ NB168_180.out _; (with_reducible repeat (first | refine blk_drewN ?_ _ | refine blk_drew ?_ | refine blk_alloc ?_ _)); refine blk_far ?_ NB168_180.out _; (with_reducible repeat (first | refine blk_drewN ?_ _ | refine blk_drew ?_ | refine blk_alloc ?_ _)); refine blk_far ?_ NB168_180.out _; (with_reducible repeat (first | refine blk_drewN ?_ _ | refine blk_drew ?_ | refine blk_alloc ?_ _)); exact BK168.out⟩
                have n1_ : Aside0 (((((((((((w40.setCell ⟨gb180, 0, none⟩ (.int .i64 (wrap64 (bt a0 1)))).setCell ⟨gb180, 1, none⟩ (.int .i64 t179)).setCell ⟨gb180, 2, none⟩ (.bool ((Go.bits .and .i64 t174 16384) != 0))).setCell ⟨gb180, 3, none⟩ (.bool ((Go.bits .and .i64 t174 8192) != 0))).setCell ⟨gb180, 4, none⟩ (.int .i64 (Int.tmod t174 8192))).setCell ⟨gb180, 5, none⟩ (.int .i64 (wrap64 (bt a0 8)))).setCell ⟨gb180, 6, none⟩ (.int .i64 (wrap64 (bt a0 9)))).setCell ⟨gb180, 7, none⟩ (.int .u32 0)).setCell ⟨gb180, 8, none⟩ (.int .u32 0)).setCell ⟨gb180, 9, none⟩ (.string (⟨#[]⟩ : ByteArray))).heap[gb180]? = some (.cells #[.int .i64 (wrap64 (bt a0 1)), .int .i64 t179, .bool ((Go.bits .and .i64 t174 16384) != 0), .bool ((Go.bits .and .i64 t174 8192) != 0), .int .i64 (Int.tmod t174 8192), .int .i64 (wrap64 (bt a0 8)), .int .i64 (wrap64 (bt a0 9)), .int .u32 0, .int .u32 0, .string (⟨#[]⟩ : ByteArray)] 24 (0, 0))) := ⟨by (with_reducible repeat (first | refine blk_drewN ?_ _ | refine blk_drew ?_ | refine blk_alloc ?_ _)); refine blk_put (cs := #[.int .i64 (wrap64 (bt a0 1)), .int .i64 t179, .bool ((Go.bits .and .i64 t174 16384) != 0), .bool ((Go.bits .and .i64 t174 8192) != 0), .int .i64 (Int.tmod t174 8192), .int .i64 (wrap64 (bt a0 8)), .int .i64 (wrap64 (bt a0 9)), .int .u32 0, .int .u32 0, .string (⟨#[]⟩ : ByteArray)]) ?_ 9 _ rfl; (with_reducible repeat (first | refine blk_drewN ?_ _ | refine blk_drew ?_ | refine blk_alloc ?_ _)); refine blk_put (cs := #[.int .i64 (wrap64 (bt a0 1)), .int .i64 t179, .bool ((Go.bits .and .i64 t174 16384) != 0), .bool ((Go.bits .and .i64 t174 8192) != 0), .int .i64 (Int.tmod t174 8192), .int .i64 (wrap64 (bt a0 8)), .int .i64 (wrap64 (bt a0 9)), .int .u32 0, .int .u32 0, .string (⟨#[]⟩ : ByteArray)]) ?_ 8 _ rfl; (with_reducible repeat (first | refine blk_drewN ?_ _ | refine blk_drew ?_ | refine blk_alloc ?_ _)); refine blk_put (cs := #[.int .i64 (wrap64 (bt a0 1)), .int .i64 t179, .bool ((Go.bits .and .i64 t174 16384) != 0), .bool ((Go.bits .and .i64 t174 8192) != 0), .int .i64 (Int.tmod t174 8192), .int .i64 (wrap64 (bt a0 8)), .int .i64 (wrap64 (bt a0 9)), .int .u32 0, .int .u32 0, .string (⟨#[]⟩ : ByteArray)]) ?_ 7 _ rfl; (with_reducible repeat (first | refine blk_drewN ?_ _ | refine blk_drew ?_ | refine blk_alloc ?_ _)); refine blk_put (cs := #[.int .i64 (wrap64 (bt a0 1)), .int .i64 t179, .bool ((Go.bits .and .i64 t174 16384) != 0), .bool ((Go.bits .and .i64 t174 8192) != 0), .int .i64 (Int.tmod t174 8192), .int .i64 (wrap64 (bt a0 8)), .int .i64 0, .int .u32 0, .int .u32 0, .string (⟨#[]⟩ : ByteArray)]) ?_ 6 _ rfl; (with_reducible repeat (first | refine blk_drewN ?_ _ | refine blk_drew ?_ | refine blk_alloc ?_ _)); refine blk_put (cs := #[.int .i64 (wrap64 (bt a0 1)), .int .i64 t179, .bool ((Go.bits .and .i64 t174 16384) != 0), .bool ((Go.bits .and .i64 t174 8192) != 0), .int .i64 (Int.tmod t174 8192), .int .i64 0, .int .i64 0, .int .u32 0, .int .u32 0, .string (⟨#[]⟩ : ByteArray)]) ?_ 5 _ rfl; (with_reducible repeat (first | refine blk_drewN ?_ _ | refine blk_drew ?_ | refine blk_alloc ?_ _)); refine blk_put (cs := #[.int .i64 (wrap64 (bt a0 1)), .int .i64 t179, .bool ((Go.bits .and .i64 t174 16384) != 0), .bool ((Go.bits .and .i64 t174 8192) != 0), .int .i64 0, .int .i64 0, .int .i64 0, .int .u32 0, .int .u32 0, .string (⟨#[]⟩ : ByteArray)]) ?_ 4 _ rfl; (with_reducible repeat (first | refine blk_drewN ?_ _ | refine blk_drew ?_ | refine blk_alloc ?_ _)); refine blk_put (cs := #[.int .i64 (wrap64 (bt a0 1)), .int .i64 t179, .bool ((Go.bits .and .i64 t174 16384) != 0), .bool false, .int .i64 0, .int .i64 0, .int .i64 0, .int .u32 0, .int .u32 0, .string (⟨#[]⟩ : ByteArray)]) ?_ 3 _ rfl; (with_reducible repeat (first | refine blk_drewN ?_ _ | refine blk_drew ?_ | refine blk_alloc ?_ _)); refine blk_put (cs := #[.int .i64 (wrap64 (bt a0 1)), .int .i64 t179, .bool false, .bool false, .int .i64 0, .int .i64 0, .int .i64 0, .int .u32 0, .int .u32 0, .string (⟨#[]⟩ : ByteArray)]) ?_ 2 _ rfl; (with_reducible repeat (first | refine blk_drewN ?_ _ | refine blk_drew ?_ | refine blk_alloc ?_ _)); refine blk_put (cs := #[.int .i64 (wrap64 (bt a0 1)), .int .i64 0, .bool false, .bool false, .int .i64 0, .int .i64 0, .int .i64 0, .int .u32 0, .int .u32 0, .string (⟨#[]⟩ : ByteArray)]) ?_ 1 _ rfl; (with_reducible repeat (first | refine blk_drewN ?_ _ | refine blk_drew ?_ | refine blk_alloc ?_ _)); refine blk_put (cs := #[.int .i64 0, .int .i64 0, .bool false, .bool false, .int .i64 0, .int .i64 0, .int .i64 0, .int .u32 0, .int .u32 0, .string (⟨#[]⟩ : ByteArray)]) ?_ 0 _ rfl; (with_reducible repeat (first | refine blk_drewN ?_ _ | refine blk_drew ?_ | refine blk_alloc ?_ _)); exact BK180.out⟩
                have n2_ : Aside0 (Below w.heap.size w ((((((((((w40.setCell ⟨gb180, 0, none⟩ (.int .i64 (wrap64 (bt a0 1)))).setCell ⟨gb180, 1, none⟩ (.int .i64 t179)).setCell ⟨gb180, 2, none⟩ (.bool ((Go.bits .and .i64 t174 16384) != 0))).setCell ⟨gb180, 3, none⟩ (.bool ((Go.bits .and .i64 t174 8192) != 0))).setCell ⟨gb180, 4, none⟩ (.int .i64 (Int.tmod t174 8192))).setCell ⟨gb180, 5, none⟩ (.int .i64 (wrap64 (bt a0 8)))).setCell ⟨gb180, 6, none⟩ (.int .i64 (wrap64 (bt a0 9)))).setCell ⟨gb180, 7, none⟩ (.int .u32 0)).setCell ⟨gb180, 8, none⟩ (.int .u32 0)).setCell ⟨gb180, 9, none⟩ (.string (⟨#[]⟩ : ByteArray)))) := ⟨by repeat (first | (with_reducible first | exact HB.out | apply below_alloc | apply pw_below_drewN | apply below_drew1 | refine below_set ?_ GE168.out | refine below_set ?_ GE180.out) | exact HB.out)⟩
                (try clear BK168)
                (try clear BK180)
                (try clear HB)
                generalize ((((((((((w40.setCell ⟨gb180, 0, none⟩ (.int .i64 (wrap64 (bt a0 1)))).setCell ⟨gb180, 1, none⟩ (.int .i64 t179)).setCell ⟨gb180, 2, none⟩ (.bool ((Go.bits .and .i64 t174 16384) != 0))).setCell ⟨gb180, 3, none⟩ (.bool ((Go.bits .and .i64 t174 8192) != 0))).setCell ⟨gb180, 4, none⟩ (.int .i64 (Int.tmod t174 8192))).setCell ⟨gb180, 5, none⟩ (.int .i64 (wrap64 (bt a0 8)))).setCell ⟨gb180, 6, none⟩ (.int .i64 (wrap64 (bt a0 9)))).setCell ⟨gb180, 7, none⟩ (.int .u32 0)).setCell ⟨gb180, 8, none⟩ (.int .u32 0)).setCell ⟨gb180, 9, none⟩ (.string (⟨#[]⟩ : ByteArray))) = w51 at n0_ n1_ n2_ ⊢
                have BK168 := n0_
                have BK180 := n1_
                have HB := n2_
                clear n0_ n1_ n2_
                have n0_ := Aside0.mk (blk_drew BK168.out)
                have n1_ := Aside0.mk (blk_drew BK180.out)
                have n2_ := Aside0.mk (below_drew1 HB.out)
                clear BK168
                clear BK180
                clear HB
                have BK168 := n0_
                have BK180 := n1_
                have HB := n2_
                clear n0_ n1_ n2_
                refine start_ (n := 13) (S := fun w' => True) (ds := []) #[false, false, false, false, false, false, false, false, false, false, false, false, false] (by kernel_rfl) rfl rfl trivial (fun hHeld => ?_); refine with_tabW inet_read.tab15 inet_read.bits15 (fun HT_ HW_ => ?_)
                generalize w51.drew = w52 at BK168 BK180 HB hHeld ⊢
                refine pure_ (i := 0) (N := some 87) (v := ?_) (a' := ?_) #[true, false, false, false, false, false, false, false, false, false, false, false, false] rfl rfl (any_of HT_.out (by kernel_rfl)) (fun _ _ _ h => h) (Or.inl ⟨by rfl, ?_⟩) ?_ ?_
                rotate_left
                ·intro w'
                 go_simp
                 with_reducible rfl
                rotate_left
                ·simp only [Act.put, List.setIfInBounds_toArray, List.set_cons_zero, List.set_cons_succ, i64_w, i32_w]
                 rfl
                refine pure_ (i := 1) (N := some 88) (v := ?_) (a' := ?_) #[true, true, false, false, false, false, false, false, false, false, false, false, false] rfl rfl (any_of HT_.out (by kernel_rfl)) (fun _ _ _ h => h) (Or.inl ⟨by rfl, ?_⟩) ?_ ?_
                rotate_left
                ·intro w'
                 go_simp
                 with_reducible rfl
                rotate_left
                ·simp only [Act.put, List.setIfInBounds_toArray, List.set_cons_zero, List.set_cons_succ, i64_w, i32_w]
                 rfl
                refine pure_ (i := 2) (N := some 89) (v := ?_) (a' := ?_) #[true, true, true, false, false, false, false, false, false, false, false, false, false] rfl rfl (any_of HT_.out (by kernel_rfl)) (fun _ _ _ h => h) (Or.inl ⟨by rfl, ?_⟩) ?_ ?_
                rotate_left
                ·intro w'
                 go_simp
                 with_reducible rfl
                rotate_left
                ·simp only [Act.put, List.setIfInBounds_toArray, List.set_cons_zero, List.set_cons_succ, i64_w, i32_w]
                 rfl
                refine pure_ (i := 3) (N := some 90) (v := ?_) (a' := ?_) #[true, true, true, true, false, false, false, false, false, false, false, false, false] rfl rfl (any_of HT_.out (by kernel_rfl)) (fun _ _ _ h => h) (Or.inl ⟨by rfl, ?_⟩) ?_ ?_
                rotate_left
                ·intro w'
                 go_simp
                 with_reducible rfl
                rotate_left
                ·simp only [Act.put, List.setIfInBounds_toArray, List.set_cons_zero, List.set_cons_succ, i64_w, i32_w]
                 rfl
                refine pure_ (i := 4) (N := some 91) (v := ?_) (a' := ?_) #[true, true, true, true, true, false, false, false, false, false, false, false, false] rfl rfl (any_of HT_.out (by kernel_rfl)) (fun _ _ _ h => h) (Or.inl ⟨by rfl, ?_⟩) ?_ ?_
                rotate_left
                ·intro w'
                 go_simp
                 with_reducible rfl
                rotate_left
                ·simp only [Act.put, List.setIfInBounds_toArray, List.set_cons_zero, List.set_cons_succ, i64_w, i32_w]
                 rfl
                refine pure_ (i := 5) (N := some 92) (v := ?_) (a' := ?_) #[true, true, true, true, true, true, false, false, false, false, false, false, false] rfl rfl (any_of HT_.out (by kernel_rfl)) (fun _ _ _ h => h) (Or.inl ⟨by rfl, ?_⟩) ?_ ?_
                rotate_left
                ·intro w'
                 go_simp
                 with_reducible rfl
                rotate_left
                ·simp only [Act.put, List.setIfInBounds_toArray, List.set_cons_zero, List.set_cons_succ, i64_w, i32_w]
                 rfl
                refine pure_ (i := 6) (N := some 93) (v := ?_) (a' := ?_) #[true, true, true, true, true, true, true, false, false, false, false, false, false] rfl rfl (any_of HT_.out (by kernel_rfl)) (fun _ _ _ h => h) (Or.inl ⟨by rfl, ?_⟩) ?_ ?_
                rotate_left
                ·intro w'
                 go_simp
                 with_reducible rfl
                rotate_left
                ·simp only [Act.put, List.setIfInBounds_toArray, List.set_cons_zero, List.set_cons_succ, i64_w, i32_w]
                 rfl
                refine pure_ (i := 7) (N := some 94) (v := ?_) (a' := ?_) #[true, true, true, true, true, true, true, true, false, false, false, false, false] rfl rfl (any_of HT_.out (by kernel_rfl)) (fun _ _ _ h => h) (Or.inl ⟨by rfl, ?_⟩) ?_ ?_
                rotate_left
                ·intro w'
                 go_simp
                 with_reducible rfl
                rotate_left
                ·simp only [Act.put, List.setIfInBounds_toArray, List.set_cons_zero, List.set_cons_succ, i64_w, i32_w]
                 rfl
                refine one_ (i := 8) (N := none) #[true, true, true, true, true, true, true, true, true, false, false, false, false] rfl rfl (one_of HT_.out (by kernel_rfl)) (by decide) (fun K hK => ?_)
                have hs53 : w52.cell? ⟨gb180, 7, none⟩ = some (.int .u32 0) := (blk_cell BK180.out 7).trans rfl
                have hfs53 := blk_frozen BK180.out 7
                have hns53_0 := NB168_180.out
                have hms53_0 := NB180_168.out
                refine skip_ (w1 := ?_) (by rfl) rfl ?_ ?_
                rotate_left
                ·go_simp
                 rfl
                refine hK.out _ _ trivial (fun hHeld => ?_)
                clear hK K
                refine pure_ (i := 9) (N := some 95) (v := ?_) (a' := ?_) #[true, true, true, true, true, true, true, true, true, true, false, false, false] rfl rfl (any_of HT_.out (by kernel_rfl)) (fun _ _ _ h => h) (Or.inl ⟨by rfl, ?_⟩) ?_ ?_
                rotate_left
                ·intro w'
                 go_simp
                 with_reducible rfl
                rotate_left
                ·simp only [Act.put, List.setIfInBounds_toArray, List.set_cons_zero, List.set_cons_succ, i64_w, i32_w]
                 rfl
                refine one_ (i := 10) (N := none) #[true, true, true, true, true, true, true, true, true, true, true, false, false] rfl rfl (one_of HT_.out (by kernel_rfl)) (by decide) (fun K hK => ?_)
                have hs54 : w52.cell? ⟨gb180, 8, none⟩ = some (.int .u32 0) := (blk_cell BK180.out 8).trans rfl
                have hfs54 := blk_frozen BK180.out 8
                have hns54_0 := NB168_180.out
                have hms54_0 := NB180_168.out
                refine skip_ (w1 := ?_) (by rfl) rfl ?_ ?_
                rotate_left
                ·go_simp
                 rfl
                refine hK.out _ _ trivial (fun hHeld => ?_)
                clear hK K
                refine pure_ (i := 11) (N := some 96) (v := ?_) (a' := ?_) #[true, true, true, true, true, true, true, true, true, true, true, true, false] rfl rfl (any_of HT_.out (by kernel_rfl)) (fun _ _ _ h => h) (Or.inl ⟨by rfl, ?_⟩) ?_ ?_
                rotate_left
                ·intro w'
                 go_simp
                 with_reducible rfl
                rotate_left
                ·simp only [Act.put, List.setIfInBounds_toArray, List.set_cons_zero, List.set_cons_succ, i64_w, i32_w]
                 rfl
                refine one_ (i := 12) (N := none) #[true, true, true, true, true, true, true, true, true, true, true, true, true] rfl rfl (one_of HT_.out (by kernel_rfl)) (by decide) (fun K hK => ?_)
                have hs55 : w52.cell? ⟨gb180, 9, none⟩ = some (.string (⟨#[]⟩ : ByteArray)) := (blk_cell BK180.out 9).trans rfl
                have hfs55 := blk_frozen BK180.out 9
                have hns55_0 := NB168_180.out
                have hms55_0 := NB180_168.out
                refine skip_ (w1 := ?_) (by rfl) rfl ?_ ?_
                rotate_left
                ·go_simp
                 rfl
                refine hK.out _ _ trivial (fun hHeld => ?_)
                clear hK K
                refine done_ (done_of HT_.out (by kernel_rfl)) ?_
                have hnb56 := NB180_168.out
                have hnc56 := NB168_180.out
                have hcz57_0 : w52.cell? ⟨gb180, 0, none⟩ = some (.int .i64 (wrap64 (bt a0 1))) := (blk_cell BK180.out 0).trans rfl
                have hcz57_1 : w52.cell? ⟨gb180, 1, none⟩ = some (.int .i64 t179) := (blk_cell BK180.out 1).trans rfl
                have hcz57_2 : w52.cell? ⟨gb180, 2, none⟩ = some (.bool ((Go.bits .and .i64 t174 16384) != 0)) := (blk_cell BK180.out 2).trans rfl
                have hcz57_3 : w52.cell? ⟨gb180, 3, none⟩ = some (.bool ((Go.bits .and .i64 t174 8192) != 0)) := (blk_cell BK180.out 3).trans rfl
                have hcz57_4 : w52.cell? ⟨gb180, 4, none⟩ = some (.int .i64 (Int.tmod t174 8192)) := (blk_cell BK180.out 4).trans rfl
                have hcz57_5 : w52.cell? ⟨gb180, 5, none⟩ = some (.int .i64 (wrap64 (bt a0 8))) := (blk_cell BK180.out 5).trans rfl
                have hcz57_6 : w52.cell? ⟨gb180, 6, none⟩ = some (.int .i64 (wrap64 (bt a0 9))) := (blk_cell BK180.out 6).trans rfl
                have hcz57_7 : w52.cell? ⟨gb180, 7, none⟩ = some (.int .u32 0) := (blk_cell BK180.out 7).trans rfl
                have hcz57_8 : w52.cell? ⟨gb180, 8, none⟩ = some (.int .u32 0) := (blk_cell BK180.out 8).trans rfl
                have hcz57_9 : w52.cell? ⟨gb180, 9, none⟩ = some (.string (⟨#[]⟩ : ByteArray)) := (blk_cell BK180.out 9).trans rfl
                have hfz57_0 := blk_frozen BK180.out 0
                have hfz57_1 := blk_frozen BK180.out 1
                have hfz57_2 := blk_frozen BK180.out 2
                have hfz57_3 := blk_frozen BK180.out 3
                have hfz57_4 := blk_frozen BK180.out 4
                have hfz57_5 := blk_frozen BK180.out 5
                have hfz57_6 := blk_frozen BK180.out 6
                have hfz57_7 := blk_frozen BK180.out 7
                have hfz57_8 := blk_frozen BK180.out 8
                have hfz57_9 := blk_frozen BK180.out 9
                have hcz58_0 : w52.cell? ⟨gb168, 0, none⟩ = some (.int .i64 0) := (blk_cell BK168.out 0).trans rfl
                have hcz58_1 : w52.cell? ⟨gb168, 1, none⟩ = some (.int .i64 0) := (blk_cell BK168.out 1).trans rfl
                have hcz58_2 : w52.cell? ⟨gb168, 2, none⟩ = some (.bool false) := (blk_cell BK168.out 2).trans rfl
                have hcz58_3 : w52.cell? ⟨gb168, 3, none⟩ = some (.bool false) := (blk_cell BK168.out 3).trans rfl
                have hcz58_4 : w52.cell? ⟨gb168, 4, none⟩ = some (.int .i64 0) := (blk_cell BK168.out 4).trans rfl
                have hcz58_5 : w52.cell? ⟨gb168, 5, none⟩ = some (.int .i64 0) := (blk_cell BK168.out 5).trans rfl
                have hcz58_6 : w52.cell? ⟨gb168, 6, none⟩ = some (.int .i64 0) := (blk_cell BK168.out 6).trans rfl
                have hcz58_7 : w52.cell? ⟨gb168, 7, none⟩ = some (.int .u32 0) := (blk_cell BK168.out 7).trans rfl
                have hcz58_8 : w52.cell? ⟨gb168, 8, none⟩ = some (.int .u32 0) := (blk_cell BK168.out 8).trans rfl
                have hcz58_9 : w52.cell? ⟨gb168, 9, none⟩ = some (.string (⟨#[]⟩ : ByteArray)) := (blk_cell BK168.out 9).trans rfl
                have hfz58_0 := blk_frozen BK168.out 0
                have hfz58_1 := blk_frozen BK168.out 1
                have hfz58_2 := blk_frozen BK168.out 2
                have hfz58_3 := blk_frozen BK168.out 3
                have hfz58_4 := blk_frozen BK168.out 4
                have hfz58_5 := blk_frozen BK168.out 5
                have hfz58_6 := blk_frozen BK168.out 6
                have hfz58_7 := blk_frozen BK168.out 7
                have hfz58_8 := blk_frozen BK168.out 8
                have hfz58_9 := blk_frozen BK168.out 9
                try go_wp2
                refine bodyPost_ret (results_ct rfl _ _ gb168 24 #[.int .i64 (wrap64 (bt a0 1)), .int .i64 t179, .bool ((Go.bits .and .i64 t174 16384) != 0), .bool ((Go.bits .and .i64 t174 8192) != 0), .int .i64 (Int.tmod t174 8192), .int .i64 (wrap64 (bt a0 8)), .int .i64 (wrap64 (bt a0 9)), .int .u32 ((t175) % 4294967296), .int .u32 ((t177) % 4294967296), .string (a0.extract 20 (t173 : Int).toNat)] (0, 0) _ rfl (by (with_reducible repeat (first | refine blk_drewN ?_ _ | refine blk_drew ?_ | refine blk_alloc ?_ _)); refine blk_put (cs := #[.int .i64 (wrap64 (bt a0 1)), .int .i64 t179, .bool ((Go.bits .and .i64 t174 16384) != 0), .bool ((Go.bits .and .i64 t174 8192) != 0), .int .i64 (Int.tmod t174 8192), .int .i64 (wrap64 (bt a0 8)), .int .i64 (wrap64 (bt a0 9)), .int .u32 ((t175) % 4294967296), .int .u32 ((t177) % 4294967296), .string (⟨#[]⟩ : ByteArray)]) ?_ 9 _ rfl; (with_reducible repeat (first | refine blk_drewN ?_ _ | refine blk_drew ?_ | refine blk_alloc ?_ _)); refine blk_put (cs := #[.int .i64 (wrap64 (bt a0 1)), .int .i64 t179, .bool ((Go.bits .and .i64 t174 16384) != 0), .bool ((Go.bits .and .i64 t174 8192) != 0), .int .i64 (Int.tmod t174 8192), .int .i64 (wrap64 (bt a0 8)), .int .i64 (wrap64 (bt a0 9)), .int .u32 ((t175) % 4294967296), .int .u32 0, .string (⟨#[]⟩ : ByteArray)]) ?_ 8 _ rfl; (with_reducible repeat (first | refine blk_drewN ?_ _ | refine blk_drew ?_ | refine blk_alloc ?_ _)); refine blk_put (cs := #[.int .i64 (wrap64 (bt a0 1)), .int .i64 t179, .bool ((Go.bits .and .i64 t174 16384) != 0), .bool ((Go.bits .and .i64 t174 8192) != 0), .int .i64 (Int.tmod t174 8192), .int .i64 (wrap64 (bt a0 8)), .int .i64 (wrap64 (bt a0 9)), .int .u32 0, .int .u32 0, .string (⟨#[]⟩ : ByteArray)]) ?_ 7 _ rfl; (with_reducible repeat (first | refine blk_drewN ?_ _ | refine blk_drew ?_ | refine blk_alloc ?_ _)); refine blk_put (cs := #[.int .i64 (wrap64 (bt a0 1)), .int .i64 t179, .bool ((Go.bits .and .i64 t174 16384) != 0), .bool ((Go.bits .and .i64 t174 8192) != 0), .int .i64 (Int.tmod t174 8192), .int .i64 (wrap64 (bt a0 8)), .int .i64 0, .int .u32 0, .int .u32 0, .string (⟨#[]⟩ : ByteArray)]) ?_ 6 _ rfl; (with_reducible repeat (first | refine blk_drewN ?_ _ | refine blk_drew ?_ | refine blk_alloc ?_ _)); refine blk_put (cs := #[.int .i64 (wrap64 (bt a0 1)), .int .i64 t179, .bool ((Go.bits .and .i64 t174 16384) != 0), .bool ((Go.bits .and .i64 t174 8192) != 0), .int .i64 (Int.tmod t174 8192), .int .i64 0, .int .i64 0, .int .u32 0, .int .u32 0, .string (⟨#[]⟩ : ByteArray)]) ?_ 5 _ rfl; (with_reducible repeat (first | refine blk_drewN ?_ _ | refine blk_drew ?_ | refine blk_alloc ?_ _)); refine blk_put (cs := #[.int .i64 (wrap64 (bt a0 1)), .int .i64 t179, .bool ((Go.bits .and .i64 t174 16384) != 0), .bool ((Go.bits .and .i64 t174 8192) != 0), .int .i64 0, .int .i64 0, .int .i64 0, .int .u32 0, .int .u32 0, .string (⟨#[]⟩ : ByteArray)]) ?_ 4 _ rfl; (with_reducible repeat (first | refine blk_drewN ?_ _ | refine blk_drew ?_ | refine blk_alloc ?_ _)); refine blk_put (cs := #[.int .i64 (wrap64 (bt a0 1)), .int .i64 t179, .bool ((Go.bits .and .i64 t174 16384) != 0), .bool false, .int .i64 0, .int .i64 0, .int .i64 0, .int .u32 0, .int .u32 0, .string (⟨#[]⟩ : ByteArray)]) ?_ 3 _ rfl; (with_reducible repeat (first | refine blk_drewN ?_ _ | refine blk_drew ?_ | refine blk_alloc ?_ _)); refine blk_put (cs := #[.int .i64 (wrap64 (bt a0 1)), .int .i64 t179, .bool false, .bool false, .int .i64 0, .int .i64 0, .int .i64 0, .int .u32 0, .int .u32 0, .string (⟨#[]⟩ : ByteArray)]) ?_ 2 _ rfl; (with_reducible repeat (first | refine blk_drewN ?_ _ | refine blk_drew ?_ | refine blk_alloc ?_ _)); refine blk_put (cs := #[.int .i64 (wrap64 (bt a0 1)), .int .i64 0, .bool false, .bool false, .int .i64 0, .int .i64 0, .int .i64 0, .int .u32 0, .int .u32 0, .string (⟨#[]⟩ : ByteArray)]) ?_ 1 _ rfl; (with_reducible repeat (first | refine blk_drewN ?_ _ | refine blk_drew ?_ | refine blk_alloc ?_ _)); refine blk_put (cs := #[.int .i64 0, .int .i64 0, .bool false, .bool false, .int .i64 0, .int .i64 0, .int .i64 0, .int .u32 0, .int .u32 0, .string (⟨#[]⟩ : ByteArray)]) ?_ 0 _ rfl; (with_reducible repeat (first | refine blk_drewN ?_ _ | refine blk_drew ?_ | refine blk_alloc ?_ _)); refine blk_far ?_ NB168_180.out _; (with_reducible repeat (first | refine blk_drewN ?_ _ | refine blk_drew ?_ | refine blk_alloc ?_ _)); refine blk_far ?_ NB168_180.out _; (with_reducible repeat (first | refine blk_drewN ?_ _ | refine blk_drew ?_ | refine blk_alloc ?_ _)); refine blk_far ?_ NB168_180.out _; (with_reducible repeat (first | refine blk_drewN ?_ _ | refine blk_drew ?_ | refine blk_alloc ?_ _)); exact BK168.out) Tryd.underlying24 rfl (by kernel_rfl)) rfl ?_
                exact ⟨by first | rfl | (simp [errW_none, errW_some] <;> rfl) | (simp [*, errW_none, errW_some] <;> rfl) | (simp [*, IntKind.wrap_u32]; done) | (simp_all [IntKind.wrap_u32]; done), by repeat (first | (with_reducible first | exact HB.out | apply below_alloc | apply pw_below_drewN | apply below_drew1 | refine below_set ?_ GE168.out | refine below_set ?_ GE180.out) | exact HB.out)⟩
               ·rw [if_neg c35] at H
                exact absurd H (by simp)
              ·rw [if_neg c34] at H
               exact absurd H (by simp)
             ·rw [if_neg c32] at H
              exact absurd H (by simp)
            ·rw [if_neg c30] at H
             exact absurd H (by simp)
           ·rw [if_neg c27] at H
            exact absurd H (by simp)
      ·replace c11 := Bool.eq_false_iff.mpr c11
       subst c11
       have H1 : (some (0, 0, false, false, 0, 0, 0, 0, 0, (⟨#[]⟩ : ByteArray), some 62)) = some (r1, r2, r3, r4, r5, r6, r7, r8, r9, r10, r11) := by rw [if_neg (show ¬ (false = true) by decide)] at H; exact H
       clear H
       have H := H1
       clear H1
       simp only [Option.some.injEq, Prod.mk.injEq] at H
       obtain ⟨rfl, rfl, rfl, rfl, rfl, rfl, rfl, rfl, rfl, rfl, rfl⟩ := H
       go_enter Tryd.func28, Tryd.ntmps28
       go_wp2_with (first | ((with_reducible refine gate_dst (N := 2) rfl ?_); refine box_event ?hg (N := 2) ?hd (cs := #[.int .i64 0, .int .i64 0, .bool false, .bool false, .int .i64 0, .int .i64 0, .int .i64 0, .int .u32 0, .int .u32 0, .string (⟨#[]⟩ : ByteArray)]) (t := 24) ?hr ?_; (case hd => rfl); (case hg => rfl); (case hr => first | (go_simp; done) | (go_simp; rfl)); intro gb168 hg w59 hbox hb; have n0_ := Aside0.mk (below_step (by repeat (first | (with_reducible first | exact HB.out | apply below_alloc | apply pw_below_drewN | apply below_drew1) | exact HB.out)) hb); have n1_ := Aside0.mk (hbox); have n2_ := Aside0.mk ((by rw [hg]; exact (below_size (by repeat (first | (with_reducible first | exact HB.out | apply below_alloc | apply pw_below_drewN | apply below_drew1) | exact HB.out))) : w.heap.size ≤ gb168)); have n3_ := Aside0.mk ((by rw [hg]; exact (below_size (by repeat (first | (with_reducible first | exact HB.out | apply below_alloc | apply pw_below_drewN | apply below_drew1) | exact HB.out))) : w.heap.size ≤ gb168)); clear HB; have HB := n0_; have BK168 := n1_; have GW168 := n2_; have GE168 := n3_; clear n0_ n1_ n2_ n3_; clear hb hbox hg; have p6 : 0 ≤ (0 : Int) := (by omega); have q6 : 0 < a0.size := (by have : (0 : Int) < (a0.size : Int) := of_decide_eq_true (by first | (with_reducible assumption) | assumption); omega); have hx6 : ∀ h : 0 < a0.size, ((a0[0]'h).toNat : Int) = bt a0 0 := bt_at a0 0; clear p6; have qi6 : (0 < (a0.size : Int)) = True := eq_true (of_decide_eq_true (by first | (with_reducible assumption) | assumption)); replace q6 := eq_true q6) | ((with_reducible refine gate_dst (N := 28) rfl ?_); refine Kd.R_lit Kd.string _ 9 ?hg (N := 28) ?hd (xs := ([a0.extract 0 20] : List ByteArray)) (inner := [.string (a0.extract 0 20)]) (ok := fun _ => True) (okp := fun _ => True) ?hr ?hp (fun _ hk => hk) trivial (Below.refl _ _) (Nat.le_refl _) (by simp) ?_; (case hd => rfl); (case hg => rfl); (case hr => first | (go_simp; done) | (go_simp; rfl)); (case hp => exact (Reps.one (show Kd.M Kd.string _ _ _ (a0.extract 0 20) [.string (a0.extract 0 20)] from rfl) (Reps.none _ _))); intro v170 w60 ho61 hb hg_ hnew_; clear hg_ hnew_; (first | rw [← Ny169.out] at ho61 | (simp only [Int.reduceToNat] at ho61; rw [← Ny169.out] at ho61)); have n0_ := Aside0.mk (Kd.R_lower ho61 (below_size (by repeat (first | (with_reducible first | exact HB.out | apply below_alloc | apply pw_below_drewN | apply below_drew1 | refine below_set ?_ GE168.out) | exact HB.out)))); have n1_ := Aside0.mk (blk_below (g := gb168) (o := .cells #[.int .i64 0, .int .i64 0, .bool false, .bool false, .int .i64 0, .int .i64 0, .int .i64 0, .int .u32 0, .int .u32 0, .string (⟨#[]⟩ : ByteArray)] 24 (0, 0)) (by (with_reducible repeat (first | refine blk_drewN ?_ _ | refine blk_drew ?_ | refine blk_alloc ?_ _)); exact BK168.out) hb); have n2_ := Aside0.mk (below_step (by repeat (first | (with_reducible first | exact HB.out | apply below_alloc | apply pw_below_drewN | apply below_drew1 | refine below_set ?_ GE168.out) | exact HB.out)) hb); clear BK168; clear HB; have HO171 := n0_; have BK168 := n1_; have HB := n2_; clear n0_ n1_ n2_; have hcy1_168_0 := (show World.cell? _ ⟨gb168, 0, none⟩ = some (.int .i64 0) from (blk_cell BK168.out 0).trans rfl); have hcy1_168_1 := (show World.cell? _ ⟨gb168, 1, none⟩ = some (.int .i64 0) from (blk_cell BK168.out 1).trans rfl); have hcy1_168_2 := (show World.cell? _ ⟨gb168, 2, none⟩ = some (.bool false) from (blk_cell BK168.out 2).trans rfl); have hcy1_168_3 := (show World.cell? _ ⟨gb168, 3, none⟩ = some (.bool false) from (blk_cell BK168.out 3).trans rfl); have hcy1_168_4 := (show World.cell? _ ⟨gb168, 4, none⟩ = some (.int .i64 0) from (blk_cell BK168.out 4).trans rfl); have hcy1_168_5 := (show World.cell? _ ⟨gb168, 5, none⟩ = some (.int .i64 0) from (blk_cell BK168.out 5).trans rfl); have hcy1_168_6 := (show World.cell? _ ⟨gb168, 6, none⟩ = some (.int .i64 0) from (blk_cell BK168.out 6).trans rfl); have hcy1_168_7 := (show World.cell? _ ⟨gb168, 7, none⟩ = some (.int .u32 0) from (blk_cell BK168.out 7).trans rfl); have hcy1_168_8 := (show World.cell? _ ⟨gb168, 8, none⟩ = some (.int .u32 0) from (blk_cell BK168.out 8).trans rfl); have hcy1_168_9 := (show World.cell? _ ⟨gb168, 9, none⟩ = some (.string (⟨#[]⟩ : ByteArray)) from (blk_cell BK168.out 9).trans rfl); clear hb ho61; obtain ⟨Ao62, co62, eo62⟩ := Kd.R_slice HO171.out; subst eo62) | ((with_reducible refine gate_callee (f := 38) rfl ?_); refine goesL_ (some 29) rfl rfl Tryd.func38 (by kernel_rfl) rfl #[.slice Ao62 y169.length co62] rfl (by (try simp only [List.map_toArray, List.map_cons, List.map_nil]); first | done | rfl | (simp only [List.length_drop, List.length_take]; rfl)) ?_; (with_reducible refine (csum_Right.calls k _ _ y169 false _ ?side1 ?side2 A10.out).mono ?_); (case side1 => repeat (first | exact (Kd.R_reads' HO171.out).2.2 | (with_reducible refine Kd.C_alloc ?_ _) | (with_reducible refine Kd.C_drewN ?_ _) | (with_reducible refine Kd.C_drew ?_))); (case side2 => exact (Kd.R_reads' HO171.out).2.1); rintro e w63 ⟨rfl, hb⟩; refine ⟨_, rfl, ?_⟩; have n0_ := Aside0.mk (Kd.R_below (by (with_reducible repeat (first | apply Kd.R_alloc | apply Kd.R_drewN | apply Kd.R_drew)); exact HO171.out) hb); have n1_ := Aside0.mk (blk_below (g := gb168) (o := .cells #[.int .i64 0, .int .i64 0, .bool false, .bool false, .int .i64 0, .int .i64 0, .int .i64 0, .int .u32 0, .int .u32 0, .string (⟨#[]⟩ : ByteArray)] 24 (0, 0)) (by (with_reducible repeat (first | refine blk_drewN ?_ _ | refine blk_drew ?_ | refine blk_alloc ?_ _)); exact BK168.out) hb); have n2_ := Aside0.mk (below_step (by repeat (first | (with_reducible first | exact HB.out | apply below_alloc | apply pw_below_drewN | apply below_drew1 | refine below_set ?_ GE168.out) | exact HB.out)) hb); clear HO171; clear BK168; clear HB; have HO171 := n0_; have BK168 := n1_; have HB := n2_; clear n0_ n1_ n2_; have hcy2_168_0 := (show World.cell? _ ⟨gb168, 0, none⟩ = some (.int .i64 0) from (blk_cell BK168.out 0).trans rfl); have hcy2_168_1 := (show World.cell? _ ⟨gb168, 1, none⟩ = some (.int .i64 0) from (blk_cell BK168.out 1).trans rfl); have hcy2_168_2 := (show World.cell? _ ⟨gb168, 2, none⟩ = some (.bool false) from (blk_cell BK168.out 2).trans rfl); have hcy2_168_3 := (show World.cell? _ ⟨gb168, 3, none⟩ = some (.bool false) from (blk_cell BK168.out 3).trans rfl); have hcy2_168_4 := (show World.cell? _ ⟨gb168, 4, none⟩ = some (.int .i64 0) from (blk_cell BK168.out 4).trans rfl); have hcy2_168_5 := (show World.cell? _ ⟨gb168, 5, none⟩ = some (.int .i64 0) from (blk_cell BK168.out 5).trans rfl); have hcy2_168_6 := (show World.cell? _ ⟨gb168, 6, none⟩ = some (.int .i64 0) from (blk_cell BK168.out 6).trans rfl); have hcy2_168_7 := (show World.cell? _ ⟨gb168, 7, none⟩ = some (.int .u32 0) from (blk_cell BK168.out 7).trans rfl); have hcy2_168_8 := (show World.cell? _ ⟨gb168, 8, none⟩ = some (.int .u32 0) from (blk_cell BK168.out 8).trans rfl); have hcy2_168_9 := (show World.cell? _ ⟨gb168, 9, none⟩ = some (.string (⟨#[]⟩ : ByteArray)) from (blk_cell BK168.out 9).trans rfl); (try clear hb); (try clear hb2); (try clear hk); (try clear hi); have hcz64_0 : w63.cell? ⟨gb168, 0, none⟩ = some (.int .i64 0) := (blk_cell BK168.out 0).trans rfl; have hcz64_1 : w63.cell? ⟨gb168, 1, none⟩ = some (.int .i64 0) := (blk_cell BK168.out 1).trans rfl; have hcz64_2 : w63.cell? ⟨gb168, 2, none⟩ = some (.bool false) := (blk_cell BK168.out 2).trans rfl; have hcz64_3 : w63.cell? ⟨gb168, 3, none⟩ = some (.bool false) := (blk_cell BK168.out 3).trans rfl; have hcz64_4 : w63.cell? ⟨gb168, 4, none⟩ = some (.int .i64 0) := (blk_cell BK168.out 4).trans rfl; have hcz64_5 : w63.cell? ⟨gb168, 5, none⟩ = some (.int .i64 0) := (blk_cell BK168.out 5).trans rfl; have hcz64_6 : w63.cell? ⟨gb168, 6, none⟩ = some (.int .i64 0) := (blk_cell BK168.out 6).trans rfl; have hcz64_7 : w63.cell? ⟨gb168, 7, none⟩ = some (.int .u32 0) := (blk_cell BK168.out 7).trans rfl; have hcz64_8 : w63.cell? ⟨gb168, 8, none⟩ = some (.int .u32 0) := (blk_cell BK168.out 8).trans rfl; have hcz64_9 : w63.cell? ⟨gb168, 9, none⟩ = some (.string (⟨#[]⟩ : ByteArray)) := (blk_cell BK168.out 9).trans rfl; have hfz64_0 := blk_frozen BK168.out 0; have hfz64_1 := blk_frozen BK168.out 1; have hfz64_2 := blk_frozen BK168.out 2; have hfz64_3 := blk_frozen BK168.out 3; have hfz64_4 := blk_frozen BK168.out 4; have hfz64_5 := blk_frozen BK168.out 5; have hfz64_6 := blk_frozen BK168.out 6; have hfz64_7 := blk_frozen BK168.out 7; have hfz64_8 := blk_frozen BK168.out 8; have hfz64_9 := blk_frozen BK168.out 9))
       refine bodyPost_ret (results_ct rfl _ _ gb168 24 #[.int .i64 0, .int .i64 0, .bool false, .bool false, .int .i64 0, .int .i64 0, .int .i64 0, .int .u32 0, .int .u32 0, .string (⟨#[]⟩ : ByteArray)] (0, 0) _ rfl (by (with_reducible repeat (first | refine blk_drewN ?_ _ | refine blk_drew ?_ | refine blk_alloc ?_ _)); refine blk_put (cs := #[.int .i64 0, .int .i64 0, .bool false, .bool false, .int .i64 0, .int .i64 0, .int .i64 0, .int .u32 0, .int .u32 0, .string (⟨#[]⟩ : ByteArray)]) ?_ 9 _ rfl; (with_reducible repeat (first | refine blk_drewN ?_ _ | refine blk_drew ?_ | refine blk_alloc ?_ _)); refine blk_put (cs := #[.int .i64 0, .int .i64 0, .bool false, .bool false, .int .i64 0, .int .i64 0, .int .i64 0, .int .u32 0, .int .u32 0, .string (⟨#[]⟩ : ByteArray)]) ?_ 8 _ rfl; (with_reducible repeat (first | refine blk_drewN ?_ _ | refine blk_drew ?_ | refine blk_alloc ?_ _)); refine blk_put (cs := #[.int .i64 0, .int .i64 0, .bool false, .bool false, .int .i64 0, .int .i64 0, .int .i64 0, .int .u32 0, .int .u32 0, .string (⟨#[]⟩ : ByteArray)]) ?_ 7 _ rfl; (with_reducible repeat (first | refine blk_drewN ?_ _ | refine blk_drew ?_ | refine blk_alloc ?_ _)); refine blk_put (cs := #[.int .i64 0, .int .i64 0, .bool false, .bool false, .int .i64 0, .int .i64 0, .int .i64 0, .int .u32 0, .int .u32 0, .string (⟨#[]⟩ : ByteArray)]) ?_ 6 _ rfl; (with_reducible repeat (first | refine blk_drewN ?_ _ | refine blk_drew ?_ | refine blk_alloc ?_ _)); refine blk_put (cs := #[.int .i64 0, .int .i64 0, .bool false, .bool false, .int .i64 0, .int .i64 0, .int .i64 0, .int .u32 0, .int .u32 0, .string (⟨#[]⟩ : ByteArray)]) ?_ 5 _ rfl; (with_reducible repeat (first | refine blk_drewN ?_ _ | refine blk_drew ?_ | refine blk_alloc ?_ _)); refine blk_put (cs := #[.int .i64 0, .int .i64 0, .bool false, .bool false, .int .i64 0, .int .i64 0, .int .i64 0, .int .u32 0, .int .u32 0, .string (⟨#[]⟩ : ByteArray)]) ?_ 4 _ rfl; (with_reducible repeat (first | refine blk_drewN ?_ _ | refine blk_drew ?_ | refine blk_alloc ?_ _)); refine blk_put (cs := #[.int .i64 0, .int .i64 0, .bool false, .bool false, .int .i64 0, .int .i64 0, .int .i64 0, .int .u32 0, .int .u32 0, .string (⟨#[]⟩ : ByteArray)]) ?_ 3 _ rfl; (with_reducible repeat (first | refine blk_drewN ?_ _ | refine blk_drew ?_ | refine blk_alloc ?_ _)); refine blk_put (cs := #[.int .i64 0, .int .i64 0, .bool false, .bool false, .int .i64 0, .int .i64 0, .int .i64 0, .int .u32 0, .int .u32 0, .string (⟨#[]⟩ : ByteArray)]) ?_ 2 _ rfl; (with_reducible repeat (first | refine blk_drewN ?_ _ | refine blk_drew ?_ | refine blk_alloc ?_ _)); refine blk_put (cs := #[.int .i64 0, .int .i64 0, .bool false, .bool false, .int .i64 0, .int .i64 0, .int .i64 0, .int .u32 0, .int .u32 0, .string (⟨#[]⟩ : ByteArray)]) ?_ 1 _ rfl; (with_reducible repeat (first | refine blk_drewN ?_ _ | refine blk_drew ?_ | refine blk_alloc ?_ _)); refine blk_put (cs := #[.int .i64 0, .int .i64 0, .bool false, .bool false, .int .i64 0, .int .i64 0, .int .i64 0, .int .u32 0, .int .u32 0, .string (⟨#[]⟩ : ByteArray)]) ?_ 0 _ rfl; (with_reducible repeat (first | refine blk_drewN ?_ _ | refine blk_drew ?_ | refine blk_alloc ?_ _)); exact BK168.out) Tryd.underlying24 rfl (by kernel_rfl)) rfl ?_
       exact ⟨by first | rfl | (simp [errW_none, errW_some] <;> rfl) | (simp [*, errW_none, errW_some] <;> rfl) | (simp [*, IntKind.wrap_u32]; done) | (simp_all [IntKind.wrap_u32]; done), by repeat (first | (with_reducible first | exact HB.out | apply below_alloc | apply pw_below_drewN | apply below_drew1 | refine below_set ?_ GE168.out) | exact HB.out)⟩
     ·rw [if_neg c9] at H
      exact absurd H (by simp)
    ·rw [if_neg c8] at H
     exact absurd H (by simp)
   ·rw [if_neg c7] at H
    have c7b0 : ((bt a0 0) == 69) = false := beq_eq_false_iff_ne.mpr c7
    have c7b1 : ((bt a0 0) != 69) = true := bne_iff_ne.mpr c7
    simp only [Option.some.injEq, Prod.mk.injEq] at H
    obtain ⟨rfl, rfl, rfl, rfl, rfl, rfl, rfl, rfl, rfl, rfl, rfl⟩ := H
    go_enter Tryd.func28, Tryd.ntmps28
    go_wp2_with (first | ((with_reducible refine gate_dst (N := 2) rfl ?_); refine box_event ?hg (N := 2) ?hd (cs := #[.int .i64 0, .int .i64 0, .bool false, .bool false, .int .i64 0, .int .i64 0, .int .i64 0, .int .u32 0, .int .u32 0, .string (⟨#[]⟩ : ByteArray)]) (t := 24) ?hr ?_; (case hd => rfl); (case hg => rfl); (case hr => first | (go_simp; done) | (go_simp; rfl)); intro gb168 hg w65 hbox hb; have n0_ := Aside0.mk (below_step (by repeat (first | (with_reducible first | exact HB.out | apply below_alloc | apply pw_below_drewN | apply below_drew1) | exact HB.out)) hb); have n1_ := Aside0.mk (hbox); have n2_ := Aside0.mk ((by rw [hg]; exact (below_size (by repeat (first | (with_reducible first | exact HB.out | apply below_alloc | apply pw_below_drewN | apply below_drew1) | exact HB.out))) : w.heap.size ≤ gb168)); have n3_ := Aside0.mk ((by rw [hg]; exact (below_size (by repeat (first | (with_reducible first | exact HB.out | apply below_alloc | apply pw_below_drewN | apply below_drew1) | exact HB.out))) : w.heap.size ≤ gb168)); clear HB; have HB := n0_; have BK168 := n1_; have GW168 := n2_; have GE168 := n3_; clear n0_ n1_ n2_ n3_; clear hb hbox hg; have p6 : 0 ≤ (0 : Int) := (by omega); have q6 : 0 < a0.size := (by have : (0 : Int) < (a0.size : Int) := of_decide_eq_true (by first | (with_reducible assumption) | assumption); omega); have hx6 : ∀ h : 0 < a0.size, ((a0[0]'h).toNat : Int) = bt a0 0 := bt_at a0 0; clear p6; have qi6 : (0 < (a0.size : Int)) = True := eq_true (of_decide_eq_true (by first | (with_reducible assumption) | assumption)); replace q6 := eq_true q6; have hcz66_0 : w65.cell? ⟨gb168, 0, none⟩ = some (.int .i64 0) := (blk_cell BK168.out 0).trans rfl; have hcz66_1 : w65.cell? ⟨gb168, 1, none⟩ = some (.int .i64 0) := (blk_cell BK168.out 1).trans rfl; have hcz66_2 : w65.cell? ⟨gb168, 2, none⟩ = some (.bool false) := (blk_cell BK168.out 2).trans rfl; have hcz66_3 : w65.cell? ⟨gb168, 3, none⟩ = some (.bool false) := (blk_cell BK168.out 3).trans rfl; have hcz66_4 : w65.cell? ⟨gb168, 4, none⟩ = some (.int .i64 0) := (blk_cell BK168.out 4).trans rfl; have hcz66_5 : w65.cell? ⟨gb168, 5, none⟩ = some (.int .i64 0) := (blk_cell BK168.out 5).trans rfl; have hcz66_6 : w65.cell? ⟨gb168, 6, none⟩ = some (.int .i64 0) := (blk_cell BK168.out 6).trans rfl; have hcz66_7 : w65.cell? ⟨gb168, 7, none⟩ = some (.int .u32 0) := (blk_cell BK168.out 7).trans rfl; have hcz66_8 : w65.cell? ⟨gb168, 8, none⟩ = some (.int .u32 0) := (blk_cell BK168.out 8).trans rfl; have hcz66_9 : w65.cell? ⟨gb168, 9, none⟩ = some (.string (⟨#[]⟩ : ByteArray)) := (blk_cell BK168.out 9).trans rfl; have hfz66_0 := blk_frozen BK168.out 0; have hfz66_1 := blk_frozen BK168.out 1; have hfz66_2 := blk_frozen BK168.out 2; have hfz66_3 := blk_frozen BK168.out 3; have hfz66_4 := blk_frozen BK168.out 4; have hfz66_5 := blk_frozen BK168.out 5; have hfz66_6 := blk_frozen BK168.out 6; have hfz66_7 := blk_frozen BK168.out 7; have hfz66_8 := blk_frozen BK168.out 8; have hfz66_9 := blk_frozen BK168.out 9))
    refine bodyPost_ret (results_ct rfl _ _ gb168 24 #[.int .i64 0, .int .i64 0, .bool false, .bool false, .int .i64 0, .int .i64 0, .int .i64 0, .int .u32 0, .int .u32 0, .string (⟨#[]⟩ : ByteArray)] (0, 0) _ rfl (by (with_reducible repeat (first | refine blk_drewN ?_ _ | refine blk_drew ?_ | refine blk_alloc ?_ _)); refine blk_put (cs := #[.int .i64 0, .int .i64 0, .bool false, .bool false, .int .i64 0, .int .i64 0, .int .i64 0, .int .u32 0, .int .u32 0, .string (⟨#[]⟩ : ByteArray)]) ?_ 9 _ rfl; (with_reducible repeat (first | refine blk_drewN ?_ _ | refine blk_drew ?_ | refine blk_alloc ?_ _)); refine blk_put (cs := #[.int .i64 0, .int .i64 0, .bool false, .bool false, .int .i64 0, .int .i64 0, .int .i64 0, .int .u32 0, .int .u32 0, .string (⟨#[]⟩ : ByteArray)]) ?_ 8 _ rfl; (with_reducible repeat (first | refine blk_drewN ?_ _ | refine blk_drew ?_ | refine blk_alloc ?_ _)); refine blk_put (cs := #[.int .i64 0, .int .i64 0, .bool false, .bool false, .int .i64 0, .int .i64 0, .int .i64 0, .int .u32 0, .int .u32 0, .string (⟨#[]⟩ : ByteArray)]) ?_ 7 _ rfl; (with_reducible repeat (first | refine blk_drewN ?_ _ | refine blk_drew ?_ | refine blk_alloc ?_ _)); refine blk_put (cs := #[.int .i64 0, .int .i64 0, .bool false, .bool false, .int .i64 0, .int .i64 0, .int .i64 0, .int .u32 0, .int .u32 0, .string (⟨#[]⟩ : ByteArray)]) ?_ 6 _ rfl; (with_reducible repeat (first | refine blk_drewN ?_ _ | refine blk_drew ?_ | refine blk_alloc ?_ _)); refine blk_put (cs := #[.int .i64 0, .int .i64 0, .bool false, .bool false, .int .i64 0, .int .i64 0, .int .i64 0, .int .u32 0, .int .u32 0, .string (⟨#[]⟩ : ByteArray)]) ?_ 5 _ rfl; (with_reducible repeat (first | refine blk_drewN ?_ _ | refine blk_drew ?_ | refine blk_alloc ?_ _)); refine blk_put (cs := #[.int .i64 0, .int .i64 0, .bool false, .bool false, .int .i64 0, .int .i64 0, .int .i64 0, .int .u32 0, .int .u32 0, .string (⟨#[]⟩ : ByteArray)]) ?_ 4 _ rfl; (with_reducible repeat (first | refine blk_drewN ?_ _ | refine blk_drew ?_ | refine blk_alloc ?_ _)); refine blk_put (cs := #[.int .i64 0, .int .i64 0, .bool false, .bool false, .int .i64 0, .int .i64 0, .int .i64 0, .int .u32 0, .int .u32 0, .string (⟨#[]⟩ : ByteArray)]) ?_ 3 _ rfl; (with_reducible repeat (first | refine blk_drewN ?_ _ | refine blk_drew ?_ | refine blk_alloc ?_ _)); refine blk_put (cs := #[.int .i64 0, .int .i64 0, .bool false, .bool false, .int .i64 0, .int .i64 0, .int .i64 0, .int .u32 0, .int .u32 0, .string (⟨#[]⟩ : ByteArray)]) ?_ 2 _ rfl; (with_reducible repeat (first | refine blk_drewN ?_ _ | refine blk_drew ?_ | refine blk_alloc ?_ _)); refine blk_put (cs := #[.int .i64 0, .int .i64 0, .bool false, .bool false, .int .i64 0, .int .i64 0, .int .i64 0, .int .u32 0, .int .u32 0, .string (⟨#[]⟩ : ByteArray)]) ?_ 1 _ rfl; (with_reducible repeat (first | refine blk_drewN ?_ _ | refine blk_drew ?_ | refine blk_alloc ?_ _)); refine blk_put (cs := #[.int .i64 0, .int .i64 0, .bool false, .bool false, .int .i64 0, .int .i64 0, .int .i64 0, .int .u32 0, .int .u32 0, .string (⟨#[]⟩ : ByteArray)]) ?_ 0 _ rfl; (with_reducible repeat (first | refine blk_drewN ?_ _ | refine blk_drew ?_ | refine blk_alloc ?_ _)); exact BK168.out) Tryd.underlying24 rfl (by kernel_rfl)) rfl ?_
    exact ⟨by first | rfl | (simp [errW_none, errW_some] <;> rfl) | (simp [*, errW_none, errW_some] <;> rfl) | (simp [*, IntKind.wrap_u32]; done) | (simp_all [IntKind.wrap_u32]; done), by repeat (first | (with_reducible first | exact HB.out | apply below_alloc | apply pw_below_drewN | apply below_drew1 | refine below_set ?_ GE168.out) | exact HB.out)⟩
  ·rw [if_neg c5] at H
   exact absurd H (by simp)

end Go.Proofs.YtigagipeaheclaaDoor.P
