-- squeezed
-- Written by wip/hprint.py (this session's program) through the kit's print program; hand contracts are marked 'by hand'.
import Derived.Test.YtbfjlhjfpmgplaaDoorRow
import Derived.Test.YtbfjlhjfpmgplaaDoorPx0
import Derived.Test.YtbfjlhjfpmgplaaDoorPx13
import Derived.Test.YtbfjlhjfpmgplaaDoorPx15
namespace Go.Proofs.YtbfjlhjfpmgplaaDoor.P
open Go.RowKit Go.Proofs.YtbfjlhjfpmgplaaDoorW.PrintWords Go.Proofs.YtbfjlhjfpmgplaaDoorW.PrintLast Go.Proofs.YtbfjlhjfpmgplaaDoorW.PrintMore
attribute [local go_sem] max2_int min2_int max_two min_two max_three min_three max_four min_four   -- for this text's walks alone
set_option linter.unusedVariables false
set_option linter.unusedSimpArgs false

/-! ### bpdu_Parse: function 13 -/
mutual
def bpdu_Parse.j0 : Nat → ByteArray → ByteArray → Bool → Option (Int × Bool × Bool × Bool × Bool × Bool × Bool × Int × Int × Int × Int × Int × Int × Int × Int × Int × Int)
 | 0, _, _, _ => none
 | k + 1, x0, x4, x21 => if x21 = true then (some (0, false, false, false, false, false, false, 0, 0, 0, 0, 0, 0, 0, 0, 0, 91)) else (if (x0.size : Int) < 38 then (bpdu_Parse.j1 k x0 x4 true) else (if x4.toList = ([2, 2] : List UInt8) then (bpdu_Parse.j1 k x0 x4 ((x0.size : Int) == 38)) else (bpdu_Parse.j1 k x0 x4 false)))
def bpdu_Parse.j1 : Nat → ByteArray → ByteArray → Bool → Option (Int × Bool × Bool × Bool × Bool × Bool × Bool × Int × Int × Int × Int × Int × Int × Int × Int × Int × Int)
 | 0, _, _, _ => none
 | k + 1, x0, x4, x29 => if x29 = true then (some (0, false, false, false, false, false, false, 0, 0, 0, 0, 0, 0, 0, 0, 0, 90)) else (if x4.toList = ([2, 2] : List UInt8) then ((bpdu_told.f k x0).bind fun bt166 => (if 7 < (x0.size : Int) then ((bpdu_quick.f bt166.1 bt166.2.1 bt166.2.2.1 bt166.2.2.2.1 bt166.2.2.2.2.1 bt166.2.2.2.2.2.1 bt166.2.2.2.2.2.2.1 bt166.2.2.2.2.2.2.2.1 bt166.2.2.2.2.2.2.2.2.1 bt166.2.2.2.2.2.2.2.2.2.1 bt166.2.2.2.2.2.2.2.2.2.2.1 bt166.2.2.2.2.2.2.2.2.2.2.2.1 bt166.2.2.2.2.2.2.2.2.2.2.2.2.1 bt166.2.2.2.2.2.2.2.2.2.2.2.2.2.1 bt166.2.2.2.2.2.2.2.2.2.2.2.2.2.2.1 bt166.2.2.2.2.2.2.2.2.2.2.2.2.2.2.2 (bt x0 7)).bind fun bt182 => (some (bt182.1, bt182.2.1, bt182.2.2.1, bt182.2.2.2.1, bt182.2.2.2.2.1, bt182.2.2.2.2.2.1, bt182.2.2.2.2.2.2.1, bt182.2.2.2.2.2.2.2.1, bt182.2.2.2.2.2.2.2.2.1, bt182.2.2.2.2.2.2.2.2.2.1, bt182.2.2.2.2.2.2.2.2.2.2.1, bt182.2.2.2.2.2.2.2.2.2.2.2.1, bt182.2.2.2.2.2.2.2.2.2.2.2.2.1, bt182.2.2.2.2.2.2.2.2.2.2.2.2.2.1, bt182.2.2.2.2.2.2.2.2.2.2.2.2.2.2.1, bt182.2.2.2.2.2.2.2.2.2.2.2.2.2.2.2, 0))) else (none))) else ((bpdu_told.f k x0).bind fun bt198 => (some (bt198.1, bt198.2.1, bt198.2.2.1, bt198.2.2.2.1, bt198.2.2.2.2.1, bt198.2.2.2.2.2.1, bt198.2.2.2.2.2.2.1, bt198.2.2.2.2.2.2.2.1, bt198.2.2.2.2.2.2.2.2.1, bt198.2.2.2.2.2.2.2.2.2.1, bt198.2.2.2.2.2.2.2.2.2.2.1, bt198.2.2.2.2.2.2.2.2.2.2.2.1, bt198.2.2.2.2.2.2.2.2.2.2.2.2.1, bt198.2.2.2.2.2.2.2.2.2.2.2.2.2.1, bt198.2.2.2.2.2.2.2.2.2.2.2.2.2.2.1, bt198.2.2.2.2.2.2.2.2.2.2.2.2.2.2.2, 0))))
end
def bpdu_Parse.f (k : Nat) (a0 : ByteArray) : Option (Int × Bool × Bool × Bool × Bool × Bool × Bool × Int × Int × Int × Int × Int × Int × Int × Int × Int × Int) := if (a0.size : Int) < 7 then (some (0, false, false, false, false, false, false, 0, 0, 0, 0, 0, 0, 0, 0, 0, 90)) else ((strings_HasPrefix.f a0 (⟨#[66, 66, 3, 0, 0]⟩ : ByteArray)).bind fun t165 => (if t165 = true then (if 5 ≤ 7 then (if 7 ≤ (a0.size : Int) then (if (a0.extract 5 7).toList = ([0, 128] : List UInt8) then (some (128, false, false, false, false, false, false, 0, 0, 0, 0, 0, 0, 0, 0, 0, 0)) else (if (a0.extract 5 7).toList = ([0, 0] : List UInt8) then (bpdu_Parse.j0 k a0 (a0.extract 5 7) false) else (bpdu_Parse.j0 k a0 (a0.extract 5 7) ((a0.extract 5 7).toList != ([2, 2] : List UInt8))))) else (none)) else (none)) else (some (0, false, false, false, false, false, false, 0, 0, 0, 0, 0, 0, 0, 0, 0, 91))))
theorem bpdu_Parse.mono_l : ∀ k, (∀ y0 y1 y2, LeO (bpdu_Parse.j0 k y0 y1 y2) (bpdu_Parse.j0 (k + 1) y0 y1 y2)) ∧ (∀ y0 y1 y2, LeO (bpdu_Parse.j1 k y0 y1 y2) (bpdu_Parse.j1 (k + 1) y0 y1 y2))
 | 0 => ⟨fun _ _ _ r h => by simp [bpdu_Parse.j0] at h, fun _ _ _ r h => by simp [bpdu_Parse.j1] at h⟩
 | k + 1 => by
  obtain ⟨ih0, ih1⟩ := bpdu_Parse.mono_l k
  refine ⟨?_, ?_⟩
  ·intro y0 y1 y2
   unfold bpdu_Parse.j0
   repeat' first
   | (with_reducible exact ih0 _ _ _)
   | (with_reducible exact ih1 _ _ _)
   | (with_reducible exact bpdu_told.mono _ _)
   | (with_reducible exact LeO.refl _)
   | (with_reducible exact LeO.none _)
   | (with_reducible refine LeO.ite ?_ ?_)
   | (with_reducible refine LeO.bind ?_ (fun _ => ?_))
   | exact ih0 _ _ _
   | exact ih1 _ _ _
   | exact bpdu_told.mono _ _
   | exact LeO.none _
   | refine LeO.ite ?_ ?_
   | refine LeO.bind ?_ (fun _ => ?_)
  ·intro y0 y1 y2
   unfold bpdu_Parse.j1
   repeat' first
   | (with_reducible exact ih0 _ _ _)
   | (with_reducible exact ih1 _ _ _)
   | (with_reducible exact bpdu_told.mono _ _)
   | (with_reducible exact LeO.refl _)
   | (with_reducible exact LeO.none _)
   | (with_reducible refine LeO.ite ?_ ?_)
   | (with_reducible refine LeO.bind ?_ (fun _ => ?_))
   | exact ih0 _ _ _
   | exact ih1 _ _ _
   | exact bpdu_told.mono _ _
   | exact LeO.none _
   | refine LeO.ite ?_ ?_
   | refine LeO.bind ?_ (fun _ => ?_)
theorem bpdu_Parse.mono : ∀ a0 k, LeO (bpdu_Parse.f k a0) (bpdu_Parse.f (k + 1) a0) := by
 intro a0 k
 obtain ⟨ih0, ih1⟩ := bpdu_Parse.mono_l k
 unfold bpdu_Parse.f
 repeat' first
   | (with_reducible exact ih0 _ _ _)
   | (with_reducible exact ih1 _ _ _)
   | (with_reducible exact bpdu_told.mono _ _)
   | (with_reducible exact LeO.refl _)
   | (with_reducible exact LeO.none _)
   | (with_reducible refine LeO.ite ?_ ?_)
   | (with_reducible refine LeO.bind ?_ (fun _ => ?_))
   | exact ih0 _ _ _
   | exact ih1 _ _ _
   | exact bpdu_told.mono _ _
   | exact LeO.none _
   | refine LeO.ite ?_ ?_
   | refine LeO.bind ?_ (fun _ => ?_)
set_option maxHeartbeats 8000000 in
set_option maxRecDepth 100000 in
theorem bpdu_Parse.calls (k : Nat) (a0 : ByteArray) (r1 : Int) (r2 : Bool) (r3 : Bool) (r4 : Bool) (r5 : Bool) (r6 : Bool) (r7 : Bool) (r8 : Int) (r9 : Int) (r10 : Int) (r11 : Int) (r12 : Int) (r13 : Int) (r14 : Int) (r15 : Int) (r16 : Int) (r17 : Int) (w : World) (h : bpdu_Parse.f k a0 = some (r1, r2, r3, r4, r5, r6, r7, r8, r9, r10, r11, r12, r13, r14, r15, r16, r17)) :
  Calls Tryd.prog 13 #[.string a0] w fun e w' => e = .returned (.tuple #[.agg #[.int .i64 r1, .bool r2, .bool r3, .bool r4, .bool r5, .bool r6, .bool r7, .int .i64 r8, .int .u64 r9, .int .i64 r10, .int .u64 r11, .int .i64 r12, .int .i64 r13, .int .i64 r14, .int .i64 r15, .int .i64 r16], .int .i64 r17]) ∧ Below w.heap.size w w' := by
 have hu24 := Tryd.underlying24
 have HB := Aside0.mk (Below.refl w.heap.size w)
 have H : (if (a0.size : Int) < 7 then (some (0, false, false, false, false, false, false, 0, 0, 0, 0, 0, 0, 0, 0, 0, 90)) else ((strings_HasPrefix.f a0 (⟨#[66, 66, 3, 0, 0]⟩ : ByteArray)).bind fun t165 => (if t165 = true then (if 5 ≤ 7 then (if 7 ≤ (a0.size : Int) then (if (a0.extract 5 7).toList = ([0, 128] : List UInt8) then (some (128, false, false, false, false, false, false, 0, 0, 0, 0, 0, 0, 0, 0, 0, 0)) else (if (a0.extract 5 7).toList = ([0, 0] : List UInt8) then (bpdu_Parse.j0 k a0 (a0.extract 5 7) false) else (bpdu_Parse.j0 k a0 (a0.extract 5 7) ((a0.extract 5 7).toList != ([2, 2] : List UInt8))))) else (none)) else (none)) else (some (0, false, false, false, false, false, false, 0, 0, 0, 0, 0, 0, 0, 0, 0, 91))))) = some (r1, r2, r3, r4, r5, r6, r7, r8, r9, r10, r11, r12, r13, r14, r15, r16, r17) := h
 clear h
 by_cases c2 : (a0.size : Int) < 7
 ·rw [if_pos c2] at H
  have c2b0 : decide ((a0.size : Int) < 7) = true := decide_eq_true c2
  have c2b1 : decide (a0.size < 7) = true := decide_eq_true (by omega)
  clear c2
  simp only [Option.some.injEq, Prod.mk.injEq] at H
  obtain ⟨rfl, rfl, rfl, rfl, rfl, rfl, rfl, rfl, rfl, rfl, rfl, rfl, rfl, rfl, rfl, rfl, rfl⟩ := H
  go_enter Tryd.func13, Tryd.ntmps13
  go_wp2_with (first | ((with_reducible refine gate_st (ty := 24) rfl ?_); (try (refine gate_guard (by rfl) ?_; dsimp only)); refine store16 rfl rfl rfl rfl rfl (by repeat (first | (with_reducible refine blk_drewN ?_ _) | (with_reducible refine blk_drew ?_) | (with_reducible refine blk_alloc ?_ _) | (with_reducible refine blk_far ?_ (by assumption) _) | (first | with_reducible exact BK164.out))) (by kernel_rfl) rfl ?_) | ((with_reducible refine gate_ld (ty := 24) rfl ?_); (try (refine gate_guard (by rfl) ?_; dsimp only)); refine wpList_load_row rfl _ _ rfl _ rfl _ _ _ _ (by repeat (first | ((with_reducible refine gate_row16 ?_); with_reducible exact put16_0_16 (by repeat (first | (with_reducible refine blk_drewN ?_ _) | (with_reducible refine blk_drew ?_) | (with_reducible refine blk_alloc ?_ _) | (first | with_reducible exact BK164.out)))) | (with_reducible refine blk_far ?_ (by assumption) _) | (with_reducible refine blk_set ?_ _ _) | (with_reducible refine blk_drewN ?_ _) | (with_reducible refine blk_drew ?_) | (with_reducible refine blk_alloc ?_ _) | (first | with_reducible exact BK164.out))) Tryd.underlying24 rfl (by kernel_rfl) ?_; (try simp only [List.setIfInBounds_toArray, List.set_cons_zero, List.set_cons_succ])) | ((with_reducible refine gate_dst (N := 2) rfl ?_); (try (refine gate_guard (by rfl) ?_; dsimp only)); refine box_event ?hg (N := 2) ?hd (cs := #[.int .i64 0, .bool false, .bool false, .bool false, .bool false, .bool false, .bool false, .int .i64 0, .int .u64 0, .int .i64 0, .int .u64 0, .int .i64 0, .int .i64 0, .int .i64 0, .int .i64 0, .int .i64 0]) (t := 24) ?hr ?_; (case hd => rfl); (case hg => rfl); (case hr => first | (go_simp; done) | (go_simp; rfl)); intro gb164 hg w3 hbox hb; have n0_ := Aside0.mk (below_step (by repeat (first | (with_reducible first | exact HB.out | apply below_alloc | apply pw_below_drewN | apply below_drew1) | exact HB.out)) hb); have n1_ := Aside0.mk (hbox); have n2_ := Aside0.mk ((by rw [hg]; exact (below_size (by repeat (first | (with_reducible first | exact HB.out | apply below_alloc | apply pw_below_drewN | apply below_drew1) | exact HB.out))) : w.heap.size ≤ gb164)); have n3_ := Aside0.mk ((by rw [hg]; exact (below_size (by repeat (first | (with_reducible first | exact HB.out | apply below_alloc | apply pw_below_drewN | apply below_drew1) | exact HB.out))) : w.heap.size ≤ gb164)); clear HB; have HB := n0_; have BK164 := n1_; have GW164 := n2_; have GE164 := n3_; clear n0_ n1_ n2_ n3_; clear hb hbox hg; obtain ⟨hcz4_0, hcz4_1, hcz4_2, hcz4_3, hcz4_4, hcz4_5, hcz4_6, hcz4_7, hcz4_8, hcz4_9, hcz4_10, hcz4_11, hcz4_12, hcz4_13, hcz4_14, hcz4_15⟩ := cells16 BK164.out; obtain ⟨hfz4_0, hfz4_1, hfz4_2, hfz4_3, hfz4_4, hfz4_5, hfz4_6, hfz4_7, hfz4_8, hfz4_9, hfz4_10, hfz4_11, hfz4_12, hfz4_13, hfz4_14, hfz4_15⟩ := frozen16 BK164.out))
  refine bodyPost_ret (results_ct rfl _ _ gb164 24 #[.int .i64 0, .bool false, .bool false, .bool false, .bool false, .bool false, .bool false, .int .i64 0, .int .u64 0, .int .i64 0, .int .u64 0, .int .i64 0, .int .i64 0, .int .i64 0, .int .i64 0, .int .i64 0] (0, 0) _ rfl (by (with_reducible repeat (first | refine blk_drewN ?_ _ | refine blk_drew ?_ | refine blk_alloc ?_ _)); exact put16_0_16 (by (with_reducible repeat (first | refine blk_drewN ?_ _ | refine blk_drew ?_ | refine blk_alloc ?_ _)); exact BK164.out)) Tryd.underlying24 rfl (by kernel_rfl)) rfl ?_
  exact ⟨by first | rfl | (simp [errW_none, errW_some] <;> rfl) | (simp [*, errW_none, errW_some] <;> rfl) | (simp [*, IntKind.wrap_u32]; done) | (simp_all [IntKind.wrap_u32]; done), by repeat (first | (with_reducible first | exact HB.out | apply below_alloc | apply pw_below_drewN | apply below_drew1 | refine below_set ?_ GE164.out) | exact HB.out)⟩
 ·rw [if_neg c2] at H
  have c2b0 : decide ((a0.size : Int) < 7) = false := decide_eq_false c2
  have c2b1 : decide (a0.size < 7) = false := decide_eq_false (by omega)
  clear c2
  replace H := Option.bind_eq_some_iff.mp H
  obtain ⟨t165, A50, H⟩ := H
  replace H : (if t165 = true then (if 5 ≤ 7 then (if 7 ≤ (a0.size : Int) then (if (a0.extract 5 7).toList = ([0, 128] : List UInt8) then (some (128, false, false, false, false, false, false, 0, 0, 0, 0, 0, 0, 0, 0, 0, 0)) else (if (a0.extract 5 7).toList = ([0, 0] : List UInt8) then (bpdu_Parse.j0 k a0 (a0.extract 5 7) false) else (bpdu_Parse.j0 k a0 (a0.extract 5 7) ((a0.extract 5 7).toList != ([2, 2] : List UInt8))))) else (none)) else (none)) else (some (0, false, false, false, false, false, false, 0, 0, 0, 0, 0, 0, 0, 0, 0, 91))) = some (r1, r2, r3, r4, r5, r6, r7, r8, r9, r10, r11, r12, r13, r14, r15, r16, r17) := H
  have A5 := Aside0.mk A50
  clear A50
  by_cases c6 : t165 = true
  ·subst c6
   have H1 : (if 5 ≤ 7 then (if 7 ≤ (a0.size : Int) then (if (a0.extract 5 7).toList = ([0, 128] : List UInt8) then (some (128, false, false, false, false, false, false, 0, 0, 0, 0, 0, 0, 0, 0, 0, 0)) else (if (a0.extract 5 7).toList = ([0, 0] : List UInt8) then (bpdu_Parse.j0 k a0 (a0.extract 5 7) false) else (bpdu_Parse.j0 k a0 (a0.extract 5 7) ((a0.extract 5 7).toList != ([2, 2] : List UInt8))))) else (none)) else (none)) = some (r1, r2, r3, r4, r5, r6, r7, r8, r9, r10, r11, r12, r13, r14, r15, r16, r17) := by rw [if_pos rfl] at H; exact H
   clear H
   have H := H1
   clear H1
   by_cases c7 : 5 ≤ 7
   ·rw [if_pos c7] at H
    have c7b0 := eq_true c7
    have c7b1 : decide (5 ≤ 7) = true := decide_eq_true c7
    clear c7
    by_cases c8 : 7 ≤ (a0.size : Int)
    ·rw [if_pos c8] at H
     have c8b0 := eq_true c8
     have c8b1 : decide (7 ≤ (a0.size : Int)) = true := decide_eq_true c8
     clear c8
     by_cases c9 : (a0.extract 5 7).toList = ([0, 128] : List UInt8)
     ·rw [if_pos c9] at H
      have c9b0 : ((a0.extract 5 7).toList == ([0, 128] : List UInt8)) = true := beq_iff_eq.mpr c9
      have c9b1 : ((a0.extract 5 7).toList != ([0, 128] : List UInt8)) = false := bne_eq_false_iff_eq.mpr c9
      clear c9
      simp only [Option.some.injEq, Prod.mk.injEq] at H
      obtain ⟨rfl, rfl, rfl, rfl, rfl, rfl, rfl, rfl, rfl, rfl, rfl, rfl, rfl, rfl, rfl, rfl, rfl⟩ := H
      go_enter Tryd.func13, Tryd.ntmps13
      go_wp2_with (first | ((with_reducible refine gate_st (ty := 24) rfl ?_); (try (refine gate_guard (by rfl) ?_; dsimp only)); refine store16 rfl rfl rfl rfl rfl (by repeat (first | (with_reducible refine blk_drewN ?_ _) | (with_reducible refine blk_drew ?_) | (with_reducible refine blk_alloc ?_ _) | (with_reducible refine blk_far ?_ (by assumption) _) | (first | with_reducible exact BK164.out))) (by kernel_rfl) rfl ?_) | ((with_reducible refine gate_ld (ty := 24) rfl ?_); (try (refine gate_guard (by rfl) ?_; dsimp only)); refine wpList_load_row rfl _ _ rfl _ rfl _ _ _ _ (by repeat (first | ((with_reducible refine gate_row16 ?_); with_reducible exact put16_0_16 (by repeat (first | (with_reducible refine blk_drewN ?_ _) | (with_reducible refine blk_drew ?_) | (with_reducible refine blk_alloc ?_ _) | (first | with_reducible exact BK164.out)))) | (with_reducible refine blk_far ?_ (by assumption) _) | (with_reducible refine blk_set ?_ _ _) | (with_reducible refine blk_drewN ?_ _) | (with_reducible refine blk_drew ?_) | (with_reducible refine blk_alloc ?_ _) | (first | with_reducible exact BK164.out))) Tryd.underlying24 rfl (by kernel_rfl) ?_; (try simp only [List.setIfInBounds_toArray, List.set_cons_zero, List.set_cons_succ])) | ((with_reducible refine gate_dst (N := 2) rfl ?_); (try (refine gate_guard (by rfl) ?_; dsimp only)); refine box_event ?hg (N := 2) ?hd (cs := #[.int .i64 0, .bool false, .bool false, .bool false, .bool false, .bool false, .bool false, .int .i64 0, .int .u64 0, .int .i64 0, .int .u64 0, .int .i64 0, .int .i64 0, .int .i64 0, .int .i64 0, .int .i64 0]) (t := 24) ?hr ?_; (case hd => rfl); (case hg => rfl); (case hr => first | (go_simp; done) | (go_simp; rfl)); intro gb164 hg w10 hbox hb; have n0_ := Aside0.mk (below_step (by repeat (first | (with_reducible first | exact HB.out | apply below_alloc | apply pw_below_drewN | apply below_drew1) | exact HB.out)) hb); have n1_ := Aside0.mk (hbox); have n2_ := Aside0.mk ((by rw [hg]; exact (below_size (by repeat (first | (with_reducible first | exact HB.out | apply below_alloc | apply pw_below_drewN | apply below_drew1) | exact HB.out))) : w.heap.size ≤ gb164)); have n3_ := Aside0.mk ((by rw [hg]; exact (below_size (by repeat (first | (with_reducible first | exact HB.out | apply below_alloc | apply pw_below_drewN | apply below_drew1) | exact HB.out))) : w.heap.size ≤ gb164)); clear HB; have HB := n0_; have BK164 := n1_; have GW164 := n2_; have GE164 := n3_; clear n0_ n1_ n2_ n3_; clear hb hbox hg) | ((with_reducible refine gate_callee (f := 26) rfl ?_); refine goesL_ (some 12) rfl rfl Tryd.func26 (by kernel_rfl) rfl #[.string a0, .string (⟨#[66, 66, 3, 0, 0]⟩ : ByteArray)] rfl (by (try simp only [List.map_toArray, List.map_cons, List.map_nil]); first | done | rfl | (simp only [List.length_drop, List.length_take]; rfl)) ?_; (with_reducible refine (strings_HasPrefix.calls a0 (⟨#[66, 66, 3, 0, 0]⟩ : ByteArray) true _ A5.out).mono ?_); rintro e w' ⟨rfl, ⟨nd, rfl⟩⟩; refine ⟨_, rfl, ?_⟩; (try (rw [drewN_self w10]; generalize hq_ : World.drewN w10 _ = w10; have n0_ : Aside0 (w10.heap[gb164]? = some (.cells #[.int .i64 0, .bool false, .bool false, .bool false, .bool false, .bool false, .bool false, .int .i64 0, .int .u64 0, .int .i64 0, .int .u64 0, .int .i64 0, .int .i64 0, .int .i64 0, .int .i64 0, .int .i64 0] 24 (0, 0))) := ⟨by rw [← hq_]; exact (by (with_reducible repeat (first | refine blk_drewN ?_ _ | refine blk_drew ?_ | refine blk_alloc ?_ _)); exact BK164.out)⟩; have n1_ : Aside0 (Below w.heap.size w w10) := ⟨by rw [← hq_]; exact (by repeat (first | (with_reducible first | exact HB.out | apply below_alloc | apply pw_below_drewN | apply below_drew1 | refine below_set ?_ GE164.out) | exact HB.out))⟩; clear BK164 HB hq_; have BK164 := n0_; have HB := n1_; clear n0_ n1_)); obtain ⟨hcz11_0, hcz11_1, hcz11_2, hcz11_3, hcz11_4, hcz11_5, hcz11_6, hcz11_7, hcz11_8, hcz11_9, hcz11_10, hcz11_11, hcz11_12, hcz11_13, hcz11_14, hcz11_15⟩ := cells16 BK164.out; obtain ⟨hfz11_0, hfz11_1, hfz11_2, hfz11_3, hfz11_4, hfz11_5, hfz11_6, hfz11_7, hfz11_8, hfz11_9, hfz11_10, hfz11_11, hfz11_12, hfz11_13, hfz11_14, hfz11_15⟩ := frozen16 BK164.out))
      refine bodyPost_ret (results_ct rfl _ _ gb164 24 #[.int .i64 128, .bool false, .bool false, .bool false, .bool false, .bool false, .bool false, .int .i64 0, .int .u64 0, .int .i64 0, .int .u64 0, .int .i64 0, .int .i64 0, .int .i64 0, .int .i64 0, .int .i64 0] (0, 0) _ rfl (by (with_reducible repeat (first | refine blk_drewN ?_ _ | refine blk_drew ?_ | refine blk_alloc ?_ _)); exact put16_0_16 (by (with_reducible repeat (first | refine blk_drewN ?_ _ | refine blk_drew ?_ | refine blk_alloc ?_ _)); exact BK164.out)) Tryd.underlying24 rfl (by kernel_rfl)) rfl ?_
      exact ⟨by first | rfl | (simp [errW_none, errW_some] <;> rfl) | (simp [*, errW_none, errW_some] <;> rfl) | (simp [*, IntKind.wrap_u32]; done) | (simp_all [IntKind.wrap_u32]; done), by repeat (first | (with_reducible first | exact HB.out | apply below_alloc | apply pw_below_drewN | apply below_drew1 | refine below_set ?_ GE164.out) | exact HB.out)⟩
     ·rw [if_neg c9] at H
      have c9b0 : ((a0.extract 5 7).toList == ([0, 128] : List UInt8)) = false := beq_eq_false_iff_ne.mpr c9
      have c9b1 : ((a0.extract 5 7).toList != ([0, 128] : List UInt8)) = true := bne_iff_ne.mpr c9
      have HC12 := Aside0.mk H
      clear H
      go_enter Tryd.func13, Tryd.ntmps13
      go_upto_region 8 with (first | ((with_reducible refine gate_st (ty := 24) rfl ?_); (try (refine gate_guard (by rfl) ?_; dsimp only)); refine store16 rfl rfl rfl rfl rfl (by repeat (first | (with_reducible refine blk_drewN ?_ _) | (with_reducible refine blk_drew ?_) | (with_reducible refine blk_alloc ?_ _) | (with_reducible refine blk_far ?_ (by assumption) _) | (first | with_reducible exact BK164.out))) (by kernel_rfl) rfl ?_) | ((with_reducible refine gate_ld (ty := 24) rfl ?_); (try (refine gate_guard (by rfl) ?_; dsimp only)); refine wpList_load_row rfl _ _ rfl _ rfl _ _ _ _ (by repeat (first | ((with_reducible refine gate_row16 ?_); with_reducible exact put16_0_16 (by repeat (first | (with_reducible refine blk_drewN ?_ _) | (with_reducible refine blk_drew ?_) | (with_reducible refine blk_alloc ?_ _) | (first | with_reducible exact BK164.out)))) | (with_reducible refine blk_far ?_ (by assumption) _) | (with_reducible refine blk_set ?_ _ _) | (with_reducible refine blk_drewN ?_ _) | (with_reducible refine blk_drew ?_) | (with_reducible refine blk_alloc ?_ _) | (first | with_reducible exact BK164.out))) Tryd.underlying24 rfl (by kernel_rfl) ?_; (try simp only [List.setIfInBounds_toArray, List.set_cons_zero, List.set_cons_succ])) | ((with_reducible refine gate_dst (N := 2) rfl ?_); (try (refine gate_guard (by rfl) ?_; dsimp only)); refine box_event ?hg (N := 2) ?hd (cs := #[.int .i64 0, .bool false, .bool false, .bool false, .bool false, .bool false, .bool false, .int .i64 0, .int .u64 0, .int .i64 0, .int .u64 0, .int .i64 0, .int .i64 0, .int .i64 0, .int .i64 0, .int .i64 0]) (t := 24) ?hr ?_; (case hd => rfl); (case hg => rfl); (case hr => first | (go_simp; done) | (go_simp; rfl)); intro gb164 hg w13 hbox hb; have n0_ := Aside0.mk (below_step (by repeat (first | (with_reducible first | exact HB.out | apply below_alloc | apply pw_below_drewN | apply below_drew1) | exact HB.out)) hb); have n1_ := Aside0.mk (hbox); have n2_ := Aside0.mk ((by rw [hg]; exact (below_size (by repeat (first | (with_reducible first | exact HB.out | apply below_alloc | apply pw_below_drewN | apply below_drew1) | exact HB.out))) : w.heap.size ≤ gb164)); have n3_ := Aside0.mk ((by rw [hg]; exact (below_size (by repeat (first | (with_reducible first | exact HB.out | apply below_alloc | apply pw_below_drewN | apply below_drew1) | exact HB.out))) : w.heap.size ≤ gb164)); clear HB; have HB := n0_; have BK164 := n1_; have GW164 := n2_; have GE164 := n3_; clear n0_ n1_ n2_ n3_; clear hb hbox hg) | ((with_reducible refine gate_callee (f := 26) rfl ?_); refine goesL_ (some 12) rfl rfl Tryd.func26 (by kernel_rfl) rfl #[.string a0, .string (⟨#[66, 66, 3, 0, 0]⟩ : ByteArray)] rfl (by (try simp only [List.map_toArray, List.map_cons, List.map_nil]); first | done | rfl | (simp only [List.length_drop, List.length_take]; rfl)) ?_; (with_reducible refine (strings_HasPrefix.calls a0 (⟨#[66, 66, 3, 0, 0]⟩ : ByteArray) true _ A5.out).mono ?_); rintro e w' ⟨rfl, ⟨nd, rfl⟩⟩; refine ⟨_, rfl, ?_⟩))
      (try simp only [Act.put, List.setIfInBounds_toArray, List.set_cons_zero, List.set_cons_succ])
      go_cut [21] (fun v21 wc => ∃ (kq : Nat) (x21_11 : Bool), v21 = .bool x21_11 ∧ Aside0 (bpdu_Parse.j0 kq a0 (a0.extract 5 7) x21_11 = some (r1, r2, r3, r4, r5, r6, r7, r8, r9, r10, r11, r12, r13, r14, r15, r16, r17)) ∧ Aside0 (kq ≤ k) ∧ Aside0 (wc.heap[gb164]? = some (.cells #[.int .i64 0, .bool false, .bool false, .bool false, .bool false, .bool false, .bool false, .int .i64 0, .int .u64 0, .int .i64 0, .int .u64 0, .int .i64 0, .int .i64 0, .int .i64 0, .int .i64 0, .int .i64 0] 24 (0, 0))) ∧ Aside0 (Below w.heap.size w wc))
      case first =>
       have H := HC12.out
       clear HC12
       by_cases c14 : (a0.extract 5 7).toList = ([0, 0] : List UInt8)
       ·rw [if_pos c14] at H
        have c14b0 : ((a0.extract 5 7).toList == ([0, 0] : List UInt8)) = true := beq_iff_eq.mpr c14
        have c14b1 : ((a0.extract 5 7).toList != ([0, 0] : List UInt8)) = false := bne_eq_false_iff_eq.mpr c14
        clear c14
        (first | rw [c14b0] | (simp only [i64_w, i32_w]; rw [c14b0]) | skip)
        have H' := Aside0.mk H
        clear H
        go_wp2_with (first | ((with_reducible refine gate_st (ty := 24) rfl ?_); (try (refine gate_guard (by rfl) ?_; dsimp only)); refine store16 rfl rfl rfl rfl rfl (by repeat (first | (with_reducible refine blk_drewN ?_ _) | (with_reducible refine blk_drew ?_) | (with_reducible refine blk_alloc ?_ _) | (with_reducible refine blk_far ?_ (by assumption) _) | (first | with_reducible exact BK164.out))) (by kernel_rfl) rfl ?_) | ((with_reducible refine gate_ld (ty := 24) rfl ?_); (try (refine gate_guard (by rfl) ?_; dsimp only)); refine wpList_load_row rfl _ _ rfl _ rfl _ _ _ _ (by repeat (first | ((with_reducible refine gate_row16 ?_); with_reducible exact put16_0_16 (by repeat (first | (with_reducible refine blk_drewN ?_ _) | (with_reducible refine blk_drew ?_) | (with_reducible refine blk_alloc ?_ _) | (first | with_reducible exact BK164.out)))) | (with_reducible refine blk_far ?_ (by assumption) _) | (with_reducible refine blk_set ?_ _ _) | (with_reducible refine blk_drewN ?_ _) | (with_reducible refine blk_drew ?_) | (with_reducible refine blk_alloc ?_ _) | (first | with_reducible exact BK164.out))) Tryd.underlying24 rfl (by kernel_rfl) ?_; (try simp only [List.setIfInBounds_toArray, List.set_cons_zero, List.set_cons_succ])) | go_in)
        go_meet
        case rel => exact ⟨_, (false), (by first | rfl | (simp; done) | (simp [*]; done)), H', ⟨by first | omega | exact Nat.le_refl _⟩, ⟨by (with_reducible repeat (first | refine blk_drewN ?_ _ | refine blk_drew ?_ | refine blk_alloc ?_ _)); exact BK164.out⟩, ⟨by repeat (first | (with_reducible first | exact HB.out | apply below_alloc | apply pw_below_drewN | apply below_drew1 | refine below_set ?_ GE164.out) | exact HB.out)⟩⟩
       ·rw [if_neg c14] at H
        have c14b0 : ((a0.extract 5 7).toList == ([0, 0] : List UInt8)) = false := beq_eq_false_iff_ne.mpr c14
        have c14b1 : ((a0.extract 5 7).toList != ([0, 0] : List UInt8)) = true := bne_iff_ne.mpr c14
        (first | rw [c14b0] | (simp only [i64_w, i32_w]; rw [c14b0]) | skip)
        have H' := Aside0.mk H
        clear H
        go_wp2_with (first | ((with_reducible refine gate_st (ty := 24) rfl ?_); (try (refine gate_guard (by rfl) ?_; dsimp only)); refine store16 rfl rfl rfl rfl rfl (by repeat (first | (with_reducible refine blk_drewN ?_ _) | (with_reducible refine blk_drew ?_) | (with_reducible refine blk_alloc ?_ _) | (with_reducible refine blk_far ?_ (by assumption) _) | (first | with_reducible exact BK164.out))) (by kernel_rfl) rfl ?_) | ((with_reducible refine gate_ld (ty := 24) rfl ?_); (try (refine gate_guard (by rfl) ?_; dsimp only)); refine wpList_load_row rfl _ _ rfl _ rfl _ _ _ _ (by repeat (first | ((with_reducible refine gate_row16 ?_); with_reducible exact put16_0_16 (by repeat (first | (with_reducible refine blk_drewN ?_ _) | (with_reducible refine blk_drew ?_) | (with_reducible refine blk_alloc ?_ _) | (first | with_reducible exact BK164.out)))) | (with_reducible refine blk_far ?_ (by assumption) _) | (with_reducible refine blk_set ?_ _ _) | (with_reducible refine blk_drewN ?_ _) | (with_reducible refine blk_drew ?_) | (with_reducible refine blk_alloc ?_ _) | (first | with_reducible exact BK164.out))) Tryd.underlying24 rfl (by kernel_rfl) ?_; (try simp only [List.setIfInBounds_toArray, List.set_cons_zero, List.set_cons_succ])) | go_in)
        go_meet
        case rel => exact ⟨_, (((a0.extract 5 7).toList != ([2, 2] : List UInt8))), (by first | rfl | (simp; done) | (simp [*]; done)), H', ⟨by first | omega | exact Nat.le_refl _⟩, ⟨by (with_reducible repeat (first | refine blk_drewN ?_ _ | refine blk_drew ?_ | refine blk_alloc ?_ _)); exact BK164.out⟩, ⟨by repeat (first | (with_reducible first | exact HB.out | apply below_alloc | apply pw_below_drewN | apply below_drew1 | refine below_set ?_ GE164.out) | exact HB.out)⟩⟩
      case rest =>
       clear HC12
       try clear c1
       try clear c2
       try clear c2b0
       try clear c2b1
       try clear p2
       try clear c6
       try clear c7
       try clear c7b0
       try clear c7b1
       try clear c8
       try clear c8b0
       try clear c8b1
       try clear c9
       try clear c9b0
       try clear c9b1
       try clear c13
       try clear c14
       try clear c14b0
       try clear c14b1
       try clear hcz11_0
       try clear hcz11_1
       try clear hcz11_10
       try clear hcz11_11
       try clear hcz11_12
       try clear hcz11_13
       try clear hcz11_14
       try clear hcz11_15
       try clear hcz11_2
       try clear hcz11_3
       try clear hcz11_4
       try clear hcz11_5
       try clear hcz11_6
       try clear hcz11_7
       try clear hcz11_8
       try clear hcz11_9
       try clear hcz4_0
       try clear hcz4_1
       try clear hcz4_10
       try clear hcz4_11
       try clear hcz4_12
       try clear hcz4_13
       try clear hcz4_14
       try clear hcz4_15
       try clear hcz4_2
       try clear hcz4_3
       try clear hcz4_4
       try clear hcz4_5
       try clear hcz4_6
       try clear hcz4_7
       try clear hcz4_8
       try clear hcz4_9
       try clear hfz11_0
       try clear hfz11_1
       try clear hfz11_10
       try clear hfz11_11
       try clear hfz11_12
       try clear hfz11_13
       try clear hfz11_14
       try clear hfz11_15
       try clear hfz11_2
       try clear hfz11_3
       try clear hfz11_4
       try clear hfz11_5
       try clear hfz11_6
       try clear hfz11_7
       try clear hfz11_8
       try clear hfz11_9
       try clear hfz4_0
       try clear hfz4_1
       try clear hfz4_10
       try clear hfz4_11
       try clear hfz4_12
       try clear hfz4_13
       try clear hfz4_14
       try clear hfz4_15
       try clear hfz4_2
       try clear hfz4_3
       try clear hfz4_4
       try clear hfz4_5
       try clear hfz4_6
       try clear hfz4_7
       try clear hfz4_8
       try clear hfz4_9
       obtain ⟨kq, x21_11, rfl, HA, HJ11, BK164, HB⟩ := hcut
       cases kq with
       | zero => exact absurd HA.out (by simp [bpdu_Parse.j0])
       | succ kj11 =>
        have H := HA.out
        clear HA
        simp only [bpdu_Parse.j0] at H
        by_cases c15 : x21_11 = true
        ·subst c15
         have H1 : (some (0, false, false, false, false, false, false, 0, 0, 0, 0, 0, 0, 0, 0, 0, 91)) = some (r1, r2, r3, r4, r5, r6, r7, r8, r9, r10, r11, r12, r13, r14, r15, r16, r17) := by rw [if_pos rfl] at H; exact H
         clear H
         have H := H1
         clear H1
         simp only [Option.some.injEq, Prod.mk.injEq] at H
         obtain ⟨rfl, rfl, rfl, rfl, rfl, rfl, rfl, rfl, rfl, rfl, rfl, rfl, rfl, rfl, rfl, rfl, rfl⟩ := H
         obtain ⟨hcz16_0, hcz16_1, hcz16_2, hcz16_3, hcz16_4, hcz16_5, hcz16_6, hcz16_7, hcz16_8, hcz16_9, hcz16_10, hcz16_11, hcz16_12, hcz16_13, hcz16_14, hcz16_15⟩ := cells16 BK164.out
         obtain ⟨hfz16_0, hfz16_1, hfz16_2, hfz16_3, hfz16_4, hfz16_5, hfz16_6, hfz16_7, hfz16_8, hfz16_9, hfz16_10, hfz16_11, hfz16_12, hfz16_13, hfz16_14, hfz16_15⟩ := frozen16 BK164.out
         go_wp2_with (first | ((with_reducible refine gate_st (ty := 24) rfl ?_); (try (refine gate_guard (by rfl) ?_; dsimp only)); refine store16 rfl rfl rfl rfl rfl (by repeat (first | (with_reducible refine blk_drewN ?_ _) | (with_reducible refine blk_drew ?_) | (with_reducible refine blk_alloc ?_ _) | (with_reducible refine blk_far ?_ (by assumption) _) | (first | with_reducible exact BK164.out))) (by kernel_rfl) rfl ?_) | ((with_reducible refine gate_ld (ty := 24) rfl ?_); (try (refine gate_guard (by rfl) ?_; dsimp only)); refine wpList_load_row rfl _ _ rfl _ rfl _ _ _ _ (by repeat (first | ((with_reducible refine gate_row16 ?_); with_reducible exact put16_0_16 (by repeat (first | (with_reducible refine blk_drewN ?_ _) | (with_reducible refine blk_drew ?_) | (with_reducible refine blk_alloc ?_ _) | (first | with_reducible exact BK164.out)))) | (with_reducible refine blk_far ?_ (by assumption) _) | (with_reducible refine blk_set ?_ _ _) | (with_reducible refine blk_drewN ?_ _) | (with_reducible refine blk_drew ?_) | (with_reducible refine blk_alloc ?_ _) | (first | with_reducible exact BK164.out))) Tryd.underlying24 rfl (by kernel_rfl) ?_; (try simp only [List.setIfInBounds_toArray, List.set_cons_zero, List.set_cons_succ])) | go_in)
         refine bodyPost_ret (results_ct rfl _ _ gb164 24 #[.int .i64 0, .bool false, .bool false, .bool false, .bool false, .bool false, .bool false, .int .i64 0, .int .u64 0, .int .i64 0, .int .u64 0, .int .i64 0, .int .i64 0, .int .i64 0, .int .i64 0, .int .i64 0] (0, 0) _ rfl (by (with_reducible repeat (first | refine blk_drewN ?_ _ | refine blk_drew ?_ | refine blk_alloc ?_ _)); exact put16_0_16 (by (with_reducible repeat (first | refine blk_drewN ?_ _ | refine blk_drew ?_ | refine blk_alloc ?_ _)); exact BK164.out)) Tryd.underlying24 rfl (by kernel_rfl)) rfl ?_
         exact ⟨by first | rfl | (simp [errW_none, errW_some] <;> rfl) | (simp [*, errW_none, errW_some] <;> rfl) | (simp [*, IntKind.wrap_u32]; done) | (simp_all [IntKind.wrap_u32]; done), by repeat (first | (with_reducible first | exact HB.out | apply below_alloc | apply pw_below_drewN | apply below_drew1 | refine below_set ?_ GE164.out) | exact HB.out)⟩
        ·replace c15 := Bool.eq_false_iff.mpr c15
         subst c15
         have H1 : (if (a0.size : Int) < 38 then (bpdu_Parse.j1 kj11 a0 (a0.extract 5 7) true) else (if (a0.extract 5 7).toList = ([2, 2] : List UInt8) then (bpdu_Parse.j1 kj11 a0 (a0.extract 5 7) ((a0.size : Int) == 38)) else (bpdu_Parse.j1 kj11 a0 (a0.extract 5 7) false))) = some (r1, r2, r3, r4, r5, r6, r7, r8, r9, r10, r11, r12, r13, r14, r15, r16, r17) := by rw [if_neg (show ¬ (false = true) by decide)] at H; exact H
         clear H
         have H := H1
         clear H1
         have HC17 := Aside0.mk H
         clear H
         go_upto_region 10 with (fail)
         go_cut [29] (fun v29 wc => ∃ (kq : Nat) (x29_16 : Bool), v29 = .bool x29_16 ∧ Aside0 (bpdu_Parse.j1 kq a0 (a0.extract 5 7) x29_16 = some (r1, r2, r3, r4, r5, r6, r7, r8, r9, r10, r11, r12, r13, r14, r15, r16, r17)) ∧ Aside0 (kq ≤ kj11) ∧ Aside0 (wc.heap[gb164]? = some (.cells #[.int .i64 0, .bool false, .bool false, .bool false, .bool false, .bool false, .bool false, .int .i64 0, .int .u64 0, .int .i64 0, .int .u64 0, .int .i64 0, .int .i64 0, .int .i64 0, .int .i64 0, .int .i64 0] 24 (0, 0))) ∧ Aside0 (Below w.heap.size w wc))
         case first =>
          have H := HC17.out
          clear HC17
          by_cases c18 : (a0.size : Int) < 38
          ·rw [if_pos c18] at H
           have c18b0 : decide ((a0.size : Int) < 38) = true := decide_eq_true c18
           have c18b1 : decide (a0.size < 38) = true := decide_eq_true (by omega)
           clear c18
           (first | rw [c18b0] | (simp only [i64_w, i32_w]; rw [c18b0]) | skip)
           have H' := Aside0.mk H
           clear H
           go_wp2_with (first | ((with_reducible refine gate_st (ty := 24) rfl ?_); (try (refine gate_guard (by rfl) ?_; dsimp only)); refine store16 rfl rfl rfl rfl rfl (by repeat (first | (with_reducible refine blk_drewN ?_ _) | (with_reducible refine blk_drew ?_) | (with_reducible refine blk_alloc ?_ _) | (with_reducible refine blk_far ?_ (by assumption) _) | (first | with_reducible exact BK164.out))) (by kernel_rfl) rfl ?_) | ((with_reducible refine gate_ld (ty := 24) rfl ?_); (try (refine gate_guard (by rfl) ?_; dsimp only)); refine wpList_load_row rfl _ _ rfl _ rfl _ _ _ _ (by repeat (first | ((with_reducible refine gate_row16 ?_); with_reducible exact put16_0_16 (by repeat (first | (with_reducible refine blk_drewN ?_ _) | (with_reducible refine blk_drew ?_) | (with_reducible refine blk_alloc ?_ _) | (first | with_reducible exact BK164.out)))) | (with_reducible refine blk_far ?_ (by assumption) _) | (with_reducible refine blk_set ?_ _ _) | (with_reducible refine blk_drewN ?_ _) | (with_reducible refine blk_drew ?_) | (with_reducible refine blk_alloc ?_ _) | (first | with_reducible exact BK164.out))) Tryd.underlying24 rfl (by kernel_rfl) ?_; (try simp only [List.setIfInBounds_toArray, List.set_cons_zero, List.set_cons_succ])) | go_in)
           go_meet
           case rel => exact ⟨_, (true), (by first | rfl | (simp; done) | (simp [*]; done)), H', ⟨by have := HJ11.out; first | omega | exact Nat.le_refl _⟩, ⟨by (with_reducible repeat (first | refine blk_drewN ?_ _ | refine blk_drew ?_ | refine blk_alloc ?_ _)); exact BK164.out⟩, ⟨by repeat (first | (with_reducible first | exact HB.out | apply below_alloc | apply pw_below_drewN | apply below_drew1 | refine below_set ?_ GE164.out) | exact HB.out)⟩⟩
          ·rw [if_neg c18] at H
           have c18b0 : decide ((a0.size : Int) < 38) = false := decide_eq_false c18
           have c18b1 : decide (a0.size < 38) = false := decide_eq_false (by omega)
           clear c18
           (first | rw [c18b0] | (simp only [i64_w, i32_w]; rw [c18b0]) | skip)
           by_cases c19 : (a0.extract 5 7).toList = ([2, 2] : List UInt8)
           ·rw [if_pos c19] at H
            have c19b0 : ((a0.extract 5 7).toList == ([2, 2] : List UInt8)) = true := beq_iff_eq.mpr c19
            have c19b1 : ((a0.extract 5 7).toList != ([2, 2] : List UInt8)) = false := bne_eq_false_iff_eq.mpr c19
            clear c19
            have H' := Aside0.mk H
            clear H
            go_wp2_with (first | ((with_reducible refine gate_st (ty := 24) rfl ?_); (try (refine gate_guard (by rfl) ?_; dsimp only)); refine store16 rfl rfl rfl rfl rfl (by repeat (first | (with_reducible refine blk_drewN ?_ _) | (with_reducible refine blk_drew ?_) | (with_reducible refine blk_alloc ?_ _) | (with_reducible refine blk_far ?_ (by assumption) _) | (first | with_reducible exact BK164.out))) (by kernel_rfl) rfl ?_) | ((with_reducible refine gate_ld (ty := 24) rfl ?_); (try (refine gate_guard (by rfl) ?_; dsimp only)); refine wpList_load_row rfl _ _ rfl _ rfl _ _ _ _ (by repeat (first | ((with_reducible refine gate_row16 ?_); with_reducible exact put16_0_16 (by repeat (first | (with_reducible refine blk_drewN ?_ _) | (with_reducible refine blk_drew ?_) | (with_reducible refine blk_alloc ?_ _) | (first | with_reducible exact BK164.out)))) | (with_reducible refine blk_far ?_ (by assumption) _) | (with_reducible refine blk_set ?_ _ _) | (with_reducible refine blk_drewN ?_ _) | (with_reducible refine blk_drew ?_) | (with_reducible refine blk_alloc ?_ _) | (first | with_reducible exact BK164.out))) Tryd.underlying24 rfl (by kernel_rfl) ?_; (try simp only [List.setIfInBounds_toArray, List.set_cons_zero, List.set_cons_succ])) | go_in)
            go_meet
            case rel => exact ⟨_, (((a0.size : Int) == 38)), (by first | rfl | (simp; done) | (simp [*]; done)), H', ⟨by have := HJ11.out; first | omega | exact Nat.le_refl _⟩, ⟨by (with_reducible repeat (first | refine blk_drewN ?_ _ | refine blk_drew ?_ | refine blk_alloc ?_ _)); exact BK164.out⟩, ⟨by repeat (first | (with_reducible first | exact HB.out | apply below_alloc | apply pw_below_drewN | apply below_drew1 | refine below_set ?_ GE164.out) | exact HB.out)⟩⟩
           ·rw [if_neg c19] at H
            have c19b0 : ((a0.extract 5 7).toList == ([2, 2] : List UInt8)) = false := beq_eq_false_iff_ne.mpr c19
            have c19b1 : ((a0.extract 5 7).toList != ([2, 2] : List UInt8)) = true := bne_iff_ne.mpr c19
            have H' := Aside0.mk H
            clear H
            go_wp2_with (first | ((with_reducible refine gate_st (ty := 24) rfl ?_); (try (refine gate_guard (by rfl) ?_; dsimp only)); refine store16 rfl rfl rfl rfl rfl (by repeat (first | (with_reducible refine blk_drewN ?_ _) | (with_reducible refine blk_drew ?_) | (with_reducible refine blk_alloc ?_ _) | (with_reducible refine blk_far ?_ (by assumption) _) | (first | with_reducible exact BK164.out))) (by kernel_rfl) rfl ?_) | ((with_reducible refine gate_ld (ty := 24) rfl ?_); (try (refine gate_guard (by rfl) ?_; dsimp only)); refine wpList_load_row rfl _ _ rfl _ rfl _ _ _ _ (by repeat (first | ((with_reducible refine gate_row16 ?_); with_reducible exact put16_0_16 (by repeat (first | (with_reducible refine blk_drewN ?_ _) | (with_reducible refine blk_drew ?_) | (with_reducible refine blk_alloc ?_ _) | (first | with_reducible exact BK164.out)))) | (with_reducible refine blk_far ?_ (by assumption) _) | (with_reducible refine blk_set ?_ _ _) | (with_reducible refine blk_drewN ?_ _) | (with_reducible refine blk_drew ?_) | (with_reducible refine blk_alloc ?_ _) | (first | with_reducible exact BK164.out))) Tryd.underlying24 rfl (by kernel_rfl) ?_; (try simp only [List.setIfInBounds_toArray, List.set_cons_zero, List.set_cons_succ])) | go_in)
            go_meet
            case rel => exact ⟨_, (false), (by first | rfl | (simp; done) | (simp [*]; done)), H', ⟨by have := HJ11.out; first | omega | exact Nat.le_refl _⟩, ⟨by (with_reducible repeat (first | refine blk_drewN ?_ _ | refine blk_drew ?_ | refine blk_alloc ?_ _)); exact BK164.out⟩, ⟨by repeat (first | (with_reducible first | exact HB.out | apply below_alloc | apply pw_below_drewN | apply below_drew1 | refine below_set ?_ GE164.out) | exact HB.out)⟩⟩
         case rest =>
          clear HC17
          try clear c1
          try clear c2
          try clear c2b0
          try clear c2b1
          try clear p2
          try clear c6
          try clear c7
          try clear c7b0
          try clear c7b1
          try clear c8
          try clear c8b0
          try clear c8b1
          try clear c9
          try clear c9b0
          try clear c9b1
          try clear c13
          try clear c14
          try clear c14b0
          try clear c14b1
          try clear c15
          try clear c18
          try clear c18b0
          try clear c18b1
          try clear c19
          try clear c19b0
          try clear c19b1
          try clear hcz11_0
          try clear hcz11_1
          try clear hcz11_10
          try clear hcz11_11
          try clear hcz11_12
          try clear hcz11_13
          try clear hcz11_14
          try clear hcz11_15
          try clear hcz11_2
          try clear hcz11_3
          try clear hcz11_4
          try clear hcz11_5
          try clear hcz11_6
          try clear hcz11_7
          try clear hcz11_8
          try clear hcz11_9
          try clear hcz16_0
          try clear hcz16_1
          try clear hcz16_10
          try clear hcz16_11
          try clear hcz16_12
          try clear hcz16_13
          try clear hcz16_14
          try clear hcz16_15
          try clear hcz16_2
          try clear hcz16_3
          try clear hcz16_4
          try clear hcz16_5
          try clear hcz16_6
          try clear hcz16_7
          try clear hcz16_8
          try clear hcz16_9
          try clear hcz4_0
          try clear hcz4_1
          try clear hcz4_10
          try clear hcz4_11
          try clear hcz4_12
          try clear hcz4_13
          try clear hcz4_14
          try clear hcz4_15
          try clear hcz4_2
          try clear hcz4_3
          try clear hcz4_4
          try clear hcz4_5
          try clear hcz4_6
          try clear hcz4_7
          try clear hcz4_8
          try clear hcz4_9
          try clear hfz11_0
          try clear hfz11_1
          try clear hfz11_10
          try clear hfz11_11
          try clear hfz11_12
          try clear hfz11_13
          try clear hfz11_14
          try clear hfz11_15
          try clear hfz11_2
          try clear hfz11_3
          try clear hfz11_4
          try clear hfz11_5
          try clear hfz11_6
          try clear hfz11_7
          try clear hfz11_8
          try clear hfz11_9
          try clear hfz16_0
          try clear hfz16_1
          try clear hfz16_10
          try clear hfz16_11
          try clear hfz16_12
          try clear hfz16_13
          try clear hfz16_14
          try clear hfz16_15
          try clear hfz16_2
          try clear hfz16_3
          try clear hfz16_4
          try clear hfz16_5
          try clear hfz16_6
          try clear hfz16_7
          try clear hfz16_8
          try clear hfz16_9
          try clear hfz4_0
          try clear hfz4_1
          try clear hfz4_10
          try clear hfz4_11
          try clear hfz4_12
          try clear hfz4_13
          try clear hfz4_14
          try clear hfz4_15
          try clear hfz4_2
          try clear hfz4_3
          try clear hfz4_4
          try clear hfz4_5
          try clear hfz4_6
          try clear hfz4_7
          try clear hfz4_8
          try clear hfz4_9
          try clear p2
          obtain ⟨kq, x29_16, rfl, HA, HJ16, BK164, HB⟩ := hcut
          cases kq with
          | zero => exact absurd HA.out (by simp [bpdu_Parse.j1])
          | succ kj16 =>
           have H := HA.out
           clear HA
           simp only [bpdu_Parse.j1] at H
           by_cases c20 : x29_16 = true
           ·subst c20
            have H1 : (some (0, false, false, false, false, false, false, 0, 0, 0, 0, 0, 0, 0, 0, 0, 90)) = some (r1, r2, r3, r4, r5, r6, r7, r8, r9, r10, r11, r12, r13, r14, r15, r16, r17) := by rw [if_pos rfl] at H; exact H
            clear H
            have H := H1
            clear H1
            simp only [Option.some.injEq, Prod.mk.injEq] at H
            obtain ⟨rfl, rfl, rfl, rfl, rfl, rfl, rfl, rfl, rfl, rfl, rfl, rfl, rfl, rfl, rfl, rfl, rfl⟩ := H
            obtain ⟨hcz21_0, hcz21_1, hcz21_2, hcz21_3, hcz21_4, hcz21_5, hcz21_6, hcz21_7, hcz21_8, hcz21_9, hcz21_10, hcz21_11, hcz21_12, hcz21_13, hcz21_14, hcz21_15⟩ := cells16 BK164.out
            obtain ⟨hfz21_0, hfz21_1, hfz21_2, hfz21_3, hfz21_4, hfz21_5, hfz21_6, hfz21_7, hfz21_8, hfz21_9, hfz21_10, hfz21_11, hfz21_12, hfz21_13, hfz21_14, hfz21_15⟩ := frozen16 BK164.out
            go_wp2_with (first | ((with_reducible refine gate_st (ty := 24) rfl ?_); (try (refine gate_guard (by rfl) ?_; dsimp only)); refine store16 rfl rfl rfl rfl rfl (by repeat (first | (with_reducible refine blk_drewN ?_ _) | (with_reducible refine blk_drew ?_) | (with_reducible refine blk_alloc ?_ _) | (with_reducible refine blk_far ?_ (by assumption) _) | (first | with_reducible exact BK164.out))) (by kernel_rfl) rfl ?_) | ((with_reducible refine gate_ld (ty := 24) rfl ?_); (try (refine gate_guard (by rfl) ?_; dsimp only)); refine wpList_load_row rfl _ _ rfl _ rfl _ _ _ _ (by repeat (first | ((with_reducible refine gate_row16 ?_); with_reducible exact put16_0_16 (by repeat (first | (with_reducible refine blk_drewN ?_ _) | (with_reducible refine blk_drew ?_) | (with_reducible refine blk_alloc ?_ _) | (first | with_reducible exact BK164.out)))) | (with_reducible refine blk_far ?_ (by assumption) _) | (with_reducible refine blk_set ?_ _ _) | (with_reducible refine blk_drewN ?_ _) | (with_reducible refine blk_drew ?_) | (with_reducible refine blk_alloc ?_ _) | (first | with_reducible exact BK164.out))) Tryd.underlying24 rfl (by kernel_rfl) ?_; (try simp only [List.setIfInBounds_toArray, List.set_cons_zero, List.set_cons_succ])) | go_in)
            refine bodyPost_ret (results_ct rfl _ _ gb164 24 #[.int .i64 0, .bool false, .bool false, .bool false, .bool false, .bool false, .bool false, .int .i64 0, .int .u64 0, .int .i64 0, .int .u64 0, .int .i64 0, .int .i64 0, .int .i64 0, .int .i64 0, .int .i64 0] (0, 0) _ rfl (by (with_reducible repeat (first | refine blk_drewN ?_ _ | refine blk_drew ?_ | refine blk_alloc ?_ _)); exact put16_0_16 (by (with_reducible repeat (first | refine blk_drewN ?_ _ | refine blk_drew ?_ | refine blk_alloc ?_ _)); exact BK164.out)) Tryd.underlying24 rfl (by kernel_rfl)) rfl ?_
            exact ⟨by first | rfl | (simp [errW_none, errW_some] <;> rfl) | (simp [*, errW_none, errW_some] <;> rfl) | (simp [*, IntKind.wrap_u32]; done) | (simp_all [IntKind.wrap_u32]; done), by repeat (first | (with_reducible first | exact HB.out | apply below_alloc | apply pw_below_drewN | apply below_drew1 | refine below_set ?_ GE164.out) | exact HB.out)⟩
           ·replace c20 := Bool.eq_false_iff.mpr c20
            subst c20
            have H1 : (if (a0.extract 5 7).toList = ([2, 2] : List UInt8) then ((bpdu_told.f kj16 a0).bind fun bt166 => (if 7 < (a0.size : Int) then ((bpdu_quick.f bt166.1 bt166.2.1 bt166.2.2.1 bt166.2.2.2.1 bt166.2.2.2.2.1 bt166.2.2.2.2.2.1 bt166.2.2.2.2.2.2.1 bt166.2.2.2.2.2.2.2.1 bt166.2.2.2.2.2.2.2.2.1 bt166.2.2.2.2.2.2.2.2.2.1 bt166.2.2.2.2.2.2.2.2.2.2.1 bt166.2.2.2.2.2.2.2.2.2.2.2.1 bt166.2.2.2.2.2.2.2.2.2.2.2.2.1 bt166.2.2.2.2.2.2.2.2.2.2.2.2.2.1 bt166.2.2.2.2.2.2.2.2.2.2.2.2.2.2.1 bt166.2.2.2.2.2.2.2.2.2.2.2.2.2.2.2 (bt a0 7)).bind fun bt182 => (some (bt182.1, bt182.2.1, bt182.2.2.1, bt182.2.2.2.1, bt182.2.2.2.2.1, bt182.2.2.2.2.2.1, bt182.2.2.2.2.2.2.1, bt182.2.2.2.2.2.2.2.1, bt182.2.2.2.2.2.2.2.2.1, bt182.2.2.2.2.2.2.2.2.2.1, bt182.2.2.2.2.2.2.2.2.2.2.1, bt182.2.2.2.2.2.2.2.2.2.2.2.1, bt182.2.2.2.2.2.2.2.2.2.2.2.2.1, bt182.2.2.2.2.2.2.2.2.2.2.2.2.2.1, bt182.2.2.2.2.2.2.2.2.2.2.2.2.2.2.1, bt182.2.2.2.2.2.2.2.2.2.2.2.2.2.2.2, 0))) else (none))) else ((bpdu_told.f kj16 a0).bind fun bt198 => (some (bt198.1, bt198.2.1, bt198.2.2.1, bt198.2.2.2.1, bt198.2.2.2.2.1, bt198.2.2.2.2.2.1, bt198.2.2.2.2.2.2.1, bt198.2.2.2.2.2.2.2.1, bt198.2.2.2.2.2.2.2.2.1, bt198.2.2.2.2.2.2.2.2.2.1, bt198.2.2.2.2.2.2.2.2.2.2.1, bt198.2.2.2.2.2.2.2.2.2.2.2.1, bt198.2.2.2.2.2.2.2.2.2.2.2.2.1, bt198.2.2.2.2.2.2.2.2.2.2.2.2.2.1, bt198.2.2.2.2.2.2.2.2.2.2.2.2.2.2.1, bt198.2.2.2.2.2.2.2.2.2.2.2.2.2.2.2, 0)))) = some (r1, r2, r3, r4, r5, r6, r7, r8, r9, r10, r11, r12, r13, r14, r15, r16, r17) := by rw [if_neg (show ¬ (false = true) by decide)] at H; exact H
            clear H
            have H := H1
            clear H1
            by_cases c22 : (a0.extract 5 7).toList = ([2, 2] : List UInt8)
            ·rw [if_pos c22] at H
             have c22b0 : ((a0.extract 5 7).toList == ([2, 2] : List UInt8)) = true := beq_iff_eq.mpr c22
             have c22b1 : ((a0.extract 5 7).toList != ([2, 2] : List UInt8)) = false := bne_eq_false_iff_eq.mpr c22
             clear c22
             replace H := Option.bind_eq_some_iff.mp H
             obtain ⟨⟨t166, t167, t168, t169, t170, t171, t172, t173, t174, t175, t176, t177, t178, t179, t180, t181⟩, A230, H⟩ := H
             replace H : (if 7 < (a0.size : Int) then ((bpdu_quick.f t166 t167 t168 t169 t170 t171 t172 t173 t174 t175 t176 t177 t178 t179 t180 t181 (bt a0 7)).bind fun bt182 => (some (bt182.1, bt182.2.1, bt182.2.2.1, bt182.2.2.2.1, bt182.2.2.2.2.1, bt182.2.2.2.2.2.1, bt182.2.2.2.2.2.2.1, bt182.2.2.2.2.2.2.2.1, bt182.2.2.2.2.2.2.2.2.1, bt182.2.2.2.2.2.2.2.2.2.1, bt182.2.2.2.2.2.2.2.2.2.2.1, bt182.2.2.2.2.2.2.2.2.2.2.2.1, bt182.2.2.2.2.2.2.2.2.2.2.2.2.1, bt182.2.2.2.2.2.2.2.2.2.2.2.2.2.1, bt182.2.2.2.2.2.2.2.2.2.2.2.2.2.2.1, bt182.2.2.2.2.2.2.2.2.2.2.2.2.2.2.2, 0))) else (none)) = some (r1, r2, r3, r4, r5, r6, r7, r8, r9, r10, r11, r12, r13, r14, r15, r16, r17) := H
             have A23 := Aside0.mk A230
             clear A230
             by_cases c24 : 7 < (a0.size : Int)
             ·rw [if_pos c24] at H
              have c24b0 : decide (7 < (a0.size : Int)) = true := decide_eq_true c24
              have c24b1 : decide (7 < a0.size) = true := decide_eq_true (by omega)
              clear c24
              replace H := Option.bind_eq_some_iff.mp H
              obtain ⟨⟨t182, t183, t184, t185, t186, t187, t188, t189, t190, t191, t192, t193, t194, t195, t196, t197⟩, A260, H⟩ := H
              replace H : (some (t182, t183, t184, t185, t186, t187, t188, t189, t190, t191, t192, t193, t194, t195, t196, t197, 0)) = some (r1, r2, r3, r4, r5, r6, r7, r8, r9, r10, r11, r12, r13, r14, r15, r16, r17) := H
              have A26 := Aside0.mk A260
              clear A260
              simp only [Option.some.injEq, Prod.mk.injEq] at H
              obtain ⟨rfl, rfl, rfl, rfl, rfl, rfl, rfl, rfl, rfl, rfl, rfl, rfl, rfl, rfl, rfl, rfl, rfl⟩ := H
              try go_wp2_with (first | ((with_reducible refine gate_st (ty := 24) rfl ?_); (try (refine gate_guard (by rfl) ?_; dsimp only)); refine store16 rfl rfl rfl rfl rfl (by repeat (first | (with_reducible refine blk_drewN ?_ _) | (with_reducible refine blk_drew ?_) | (with_reducible refine blk_alloc ?_ _) | (with_reducible refine blk_far ?_ (by assumption) _) | (first | with_reducible exact BK164.out))) (by kernel_rfl) rfl ?_) | ((with_reducible refine gate_ld (ty := 24) rfl ?_); (try (refine gate_guard (by rfl) ?_; dsimp only)); refine wpList_load_row rfl _ _ rfl _ rfl _ _ _ _ (by repeat (first | ((with_reducible refine gate_row16 ?_); with_reducible exact put16_0_16 (by repeat (first | (with_reducible refine blk_drewN ?_ _) | (with_reducible refine blk_drew ?_) | (with_reducible refine blk_alloc ?_ _) | (first | with_reducible exact BK164.out)))) | (with_reducible refine blk_far ?_ (by assumption) _) | (with_reducible refine blk_set ?_ _ _) | (with_reducible refine blk_drewN ?_ _) | (with_reducible refine blk_drew ?_) | (with_reducible refine blk_alloc ?_ _) | (first | with_reducible exact BK164.out))) Tryd.underlying24 rfl (by kernel_rfl) ?_; (try simp only [List.setIfInBounds_toArray, List.set_cons_zero, List.set_cons_succ])) | go_in)
              have n0_ := Aside0.mk (blk_drew BK164.out)
              have n1_ := Aside0.mk (below_drew1 HB.out)
              clear BK164
              clear HB
              have BK164 := n0_
              have HB := n1_
              clear n0_ n1_
              have p25 : 0 ≤ (7 : Int) := (by omega)
              have q25 : 7 < a0.size := (by have : (7 : Int) < (a0.size : Int) := of_decide_eq_true (by first | (with_reducible assumption) | assumption); omega)
              have hx25 : ∀ h : 7 < a0.size, ((a0[7]'h).toNat : Int) = bt a0 7 := bt_at a0 7
              clear p25
              have qi25 : (7 < (a0.size : Int)) = True := eq_true (of_decide_eq_true (by first | (with_reducible assumption) | assumption))
              replace q25 := eq_true q25
              refine start_ (n := 7) (S := fun w' => True) (ds := []) #[false, false, false, false, false, false, false] (by kernel_rfl) rfl rfl trivial (fun hHeld => ?_)
              generalize wc.drew = w27 at BK164 HB hHeld ⊢
              refine pure_ (i := 0) (N := some 46) (v := ?_) (a' := ?_) #[true, false, false, false, false, false, false] rfl rfl (by kernel_rfl) (fun _ _ _ h => h) (Or.inl ⟨by rfl, ?_⟩) ?_ ?_
              rotate_left
              ·intro w'
               go_simp
               with_reducible rfl
              rotate_left
              ·simp only [Act.put, List.setIfInBounds_toArray, List.set_cons_zero, List.set_cons_succ, i64_w, i32_w]
               rfl
              refine pure_ (i := 2) (N := some 48) (v := ?_) (a' := ?_) #[true, false, true, false, false, false, false] rfl rfl (by kernel_rfl) (fun _ _ _ h => h) (Or.inl ⟨by rfl, ?_⟩) ?_ ?_
              rotate_left
              ·intro w'
               go_simp
               with_reducible rfl
              rotate_left
              ·simp only [Act.put, List.setIfInBounds_toArray, List.set_cons_zero, List.set_cons_succ, i64_w, i32_w]
               rfl
              refine take_ (i := 3) (N := some 49) (v := ?_) (a' := ?_) #[true, false, true, true, false, false, false] rfl rfl (by kernel_rfl) (fun _ _ _ h => h) (Or.inl ⟨by rfl, ?_⟩) hHeld ?_ ?_
              rotate_left
              ·intro w' _
               go_simp
               with_reducible rfl
              rotate_left
              ·simp only [Act.put, List.setIfInBounds_toArray, List.set_cons_zero, List.set_cons_succ, i64_w, i32_w]
               rfl
              refine one_ (i := 1) (N := some 47) #[true, true, true, true, false, false, false] rfl rfl (by kernel_rfl) (by decide) (fun K hK => ?_)
              refine goes_ Tryd.func28 (by kernel_rfl) rfl #[.string a0] (by first | rfl | exact wanted_on rfl rfl rfl (by first | rfl | (simp [*]; done) | (simp [*, IntKind.wrap_u32]; done))) rfl rfl (by (try simp only [List.map_toArray, List.map_cons, List.map_nil]); first | done | rfl | (simp only [List.length_drop, List.length_take]; rfl)) ?_
              with_reducible refine (bpdu_told.calls kj16 a0 t166 t167 t168 t169 t170 t171 t172 t173 t174 t175 t176 t177 t178 t179 t180 t181 _ A23.out).mono ?_
              rintro e w28 ⟨rfl, hb⟩
              refine ⟨_, rfl, ?_⟩
              have n0_ := Aside0.mk (blk_below (g := gb164) (by (with_reducible repeat (first | refine blk_drewN ?_ _ | refine blk_drew ?_ | refine blk_alloc ?_ _)); exact BK164.out) hb)
              have n1_ := Aside0.mk (below_step (by repeat (first | (with_reducible first | exact HB.out | apply below_alloc | apply pw_below_drewN | apply below_drew1 | refine below_set ?_ GE164.out) | exact HB.out)) hb)
              clear BK164
              clear HB
              have BK164 := n0_
              have HB := n1_
              clear n0_ n1_
              (try clear hb)
              (try clear hb2)
              (try clear hk)
              (try clear hi)
              refine hK.out _ _ trivial (fun hHeld => ?_)
              clear hK K
              refine norm_ (a' := ?_) ?_ ?_
              rotate_left
              ·show Act.put _ (some 47) _ = _
               simp only [Act.put, List.setIfInBounds_toArray, List.set_cons_zero, List.set_cons_succ, i64_w, i32_w]
               rfl
              refine one_ (i := 4) (N := some 50) #[true, true, true, true, true, false, false] rfl rfl (by kernel_rfl) (by decide) (fun K hK => ?_)
              refine goes_ Tryd.func27 (by kernel_rfl) rfl #[.agg #[.int .i64 t166, .bool t167, .bool t168, .bool t169, .bool t170, .bool t171, .bool t172, .int .i64 t173, .int .u64 t174, .int .i64 t175, .int .u64 t176, .int .i64 t177, .int .i64 t178, .int .i64 t179, .int .i64 t180, .int .i64 t181], .int .u8 (bt a0 7)] (by first | rfl | exact wanted_on rfl rfl rfl (by first | rfl | (simp [*]; done) | (simp [*, IntKind.wrap_u32]; done))) rfl rfl (by (try simp only [List.map_toArray, List.map_cons, List.map_nil]); first | done | rfl | (simp only [List.length_drop, List.length_take]; rfl)) ?_
              with_reducible refine (bpdu_quick.calls t166 t167 t168 t169 t170 t171 t172 t173 t174 t175 t176 t177 t178 t179 t180 t181 (bt a0 7) t182 t183 t184 t185 t186 t187 t188 t189 t190 t191 t192 t193 t194 t195 t196 t197 _ A26.out).mono ?_
              rintro e w29 ⟨rfl, hb⟩
              refine ⟨_, rfl, ?_⟩
              have n0_ := Aside0.mk (blk_below (g := gb164) (by (with_reducible repeat (first | refine blk_drewN ?_ _ | refine blk_drew ?_ | refine blk_alloc ?_ _)); exact BK164.out) hb)
              have n1_ := Aside0.mk (below_step (by repeat (first | (with_reducible first | exact HB.out | apply below_alloc | apply pw_below_drewN | apply below_drew1 | refine below_set ?_ GE164.out) | exact HB.out)) hb)
              clear BK164
              clear HB
              have BK164 := n0_
              have HB := n1_
              clear n0_ n1_
              (try clear hb)
              (try clear hb2)
              (try clear hk)
              (try clear hi)
              refine hK.out _ _ trivial (fun hHeld => ?_)
              clear hK K
              refine norm_ (a' := ?_) ?_ ?_
              rotate_left
              ·show Act.put _ (some 50) _ = _
               simp only [Act.put, List.setIfInBounds_toArray, List.set_cons_zero, List.set_cons_succ, i64_w, i32_w]
               rfl
              refine one_ (i := 5) (N := none) #[true, true, true, true, true, true, false] rfl rfl (by kernel_rfl) (by decide) (fun K hK => ?_)
              have hs30 : w29.cell? ⟨gb164, 0, none⟩ = some (.int .i64 0) := (blk_cell BK164.out 0).trans rfl
              have hfs30 := blk_frozen BK164.out 0
              have hs31 : w29.cell? ⟨gb164, 1, none⟩ = some (.bool false) := (blk_cell BK164.out 1).trans rfl
              have hfs31 := blk_frozen BK164.out 1
              have hs32 : w29.cell? ⟨gb164, 2, none⟩ = some (.bool false) := (blk_cell BK164.out 2).trans rfl
              have hfs32 := blk_frozen BK164.out 2
              have hs33 : w29.cell? ⟨gb164, 3, none⟩ = some (.bool false) := (blk_cell BK164.out 3).trans rfl
              have hfs33 := blk_frozen BK164.out 3
              have hs34 : w29.cell? ⟨gb164, 4, none⟩ = some (.bool false) := (blk_cell BK164.out 4).trans rfl
              have hfs34 := blk_frozen BK164.out 4
              have hs35 : w29.cell? ⟨gb164, 5, none⟩ = some (.bool false) := (blk_cell BK164.out 5).trans rfl
              have hfs35 := blk_frozen BK164.out 5
              have hs36 : w29.cell? ⟨gb164, 6, none⟩ = some (.bool false) := (blk_cell BK164.out 6).trans rfl
              have hfs36 := blk_frozen BK164.out 6
              have hs37 : w29.cell? ⟨gb164, 7, none⟩ = some (.int .i64 0) := (blk_cell BK164.out 7).trans rfl
              have hfs37 := blk_frozen BK164.out 7
              have hs38 : w29.cell? ⟨gb164, 8, none⟩ = some (.int .u64 0) := (blk_cell BK164.out 8).trans rfl
              have hfs38 := blk_frozen BK164.out 8
              have hs39 : w29.cell? ⟨gb164, 9, none⟩ = some (.int .i64 0) := (blk_cell BK164.out 9).trans rfl
              have hfs39 := blk_frozen BK164.out 9
              have hs40 : w29.cell? ⟨gb164, 10, none⟩ = some (.int .u64 0) := (blk_cell BK164.out 10).trans rfl
              have hfs40 := blk_frozen BK164.out 10
              have hs41 : w29.cell? ⟨gb164, 11, none⟩ = some (.int .i64 0) := (blk_cell BK164.out 11).trans rfl
              have hfs41 := blk_frozen BK164.out 11
              have hs42 : w29.cell? ⟨gb164, 12, none⟩ = some (.int .i64 0) := (blk_cell BK164.out 12).trans rfl
              have hfs42 := blk_frozen BK164.out 12
              have hs43 : w29.cell? ⟨gb164, 13, none⟩ = some (.int .i64 0) := (blk_cell BK164.out 13).trans rfl
              have hfs43 := blk_frozen BK164.out 13
              have hs44 : w29.cell? ⟨gb164, 14, none⟩ = some (.int .i64 0) := (blk_cell BK164.out 14).trans rfl
              have hfs44 := blk_frozen BK164.out 14
              have hs45 : w29.cell? ⟨gb164, 15, none⟩ = some (.int .i64 0) := (blk_cell BK164.out 15).trans rfl
              have hfs45 := blk_frozen BK164.out 15
              refine skip_ (w1 := ?_) (by rfl) rfl ?_ ?_
              rotate_left
              ·go_simp
               rfl
              refine hK.out _ _ trivial (fun hHeld => ?_)
              clear hK K
              refine pure_ (i := 6) (N := some 3) (v := ?_) (a' := ?_) #[true, true, true, true, true, true, true] rfl rfl (by kernel_rfl) (fun _ _ _ h => h) (Or.inl ⟨by rfl, ?_⟩) ?_ ?_
              rotate_left
              ·intro w'
               go_simp
               with_reducible rfl
              rotate_left
              ·simp only [Act.put, List.setIfInBounds_toArray, List.set_cons_zero, List.set_cons_succ, i64_w, i32_w]
               rfl
              refine done_ (by kernel_rfl) ?_
              try go_wp2_with (first | ((with_reducible refine gate_st (ty := 24) rfl ?_); (try (refine gate_guard (by rfl) ?_; dsimp only)); refine store16 rfl rfl rfl rfl rfl (by repeat (first | (with_reducible refine blk_drewN ?_ _) | (with_reducible refine blk_drew ?_) | (with_reducible refine blk_alloc ?_ _) | (with_reducible refine blk_far ?_ (by assumption) _) | (first | with_reducible exact BK164.out))) (by kernel_rfl) rfl ?_) | ((with_reducible refine gate_ld (ty := 24) rfl ?_); (try (refine gate_guard (by rfl) ?_; dsimp only)); refine wpList_load_row rfl _ _ rfl _ rfl _ _ _ _ (by repeat (first | ((with_reducible refine gate_row16 ?_); with_reducible exact put16_0_16 (by repeat (first | (with_reducible refine blk_drewN ?_ _) | (with_reducible refine blk_drew ?_) | (with_reducible refine blk_alloc ?_ _) | (first | with_reducible exact BK164.out)))) | (with_reducible refine blk_far ?_ (by assumption) _) | (with_reducible refine blk_set ?_ _ _) | (with_reducible refine blk_drewN ?_ _) | (with_reducible refine blk_drew ?_) | (with_reducible refine blk_alloc ?_ _) | (first | with_reducible exact BK164.out))) Tryd.underlying24 rfl (by kernel_rfl) ?_; (try simp only [List.setIfInBounds_toArray, List.set_cons_zero, List.set_cons_succ])) | go_in)
              refine bodyPost_ret (results_ct rfl _ _ gb164 24 #[.int .i64 t182, .bool t183, .bool t184, .bool t185, .bool t186, .bool t187, .bool t188, .int .i64 t189, .int .u64 t190, .int .i64 t191, .int .u64 t192, .int .i64 t193, .int .i64 t194, .int .i64 t195, .int .i64 t196, .int .i64 t197] (0, 0) _ rfl (by (with_reducible repeat (first | refine blk_drewN ?_ _ | refine blk_drew ?_ | refine blk_alloc ?_ _)); exact put16_0_16 (by (with_reducible repeat (first | refine blk_drewN ?_ _ | refine blk_drew ?_ | refine blk_alloc ?_ _)); exact BK164.out)) Tryd.underlying24 rfl (by kernel_rfl)) rfl ?_
              exact ⟨by first | rfl | (simp [errW_none, errW_some] <;> rfl) | (simp [*, errW_none, errW_some] <;> rfl) | (simp [*, IntKind.wrap_u32]; done) | (simp_all [IntKind.wrap_u32]; done), by repeat (first | (with_reducible first | exact HB.out | apply below_alloc | apply pw_below_drewN | apply below_drew1 | refine below_set ?_ GE164.out) | exact HB.out)⟩
             ·rw [if_neg c24] at H
              exact absurd H (by simp)
            ·rw [if_neg c22] at H
             have c22b0 : ((a0.extract 5 7).toList == ([2, 2] : List UInt8)) = false := beq_eq_false_iff_ne.mpr c22
             have c22b1 : ((a0.extract 5 7).toList != ([2, 2] : List UInt8)) = true := bne_iff_ne.mpr c22
             replace H := Option.bind_eq_some_iff.mp H
             obtain ⟨⟨t198, t199, t200, t201, t202, t203, t204, t205, t206, t207, t208, t209, t210, t211, t212, t213⟩, A460, H⟩ := H
             replace H : (some (t198, t199, t200, t201, t202, t203, t204, t205, t206, t207, t208, t209, t210, t211, t212, t213, 0)) = some (r1, r2, r3, r4, r5, r6, r7, r8, r9, r10, r11, r12, r13, r14, r15, r16, r17) := H
             have A46 := Aside0.mk A460
             clear A460
             simp only [Option.some.injEq, Prod.mk.injEq] at H
             obtain ⟨rfl, rfl, rfl, rfl, rfl, rfl, rfl, rfl, rfl, rfl, rfl, rfl, rfl, rfl, rfl, rfl, rfl⟩ := H
             go_wp2_with (first | ((with_reducible refine gate_st (ty := 24) rfl ?_); (try (refine gate_guard (by rfl) ?_; dsimp only)); refine store16 rfl rfl rfl rfl rfl (by repeat (first | (with_reducible refine blk_drewN ?_ _) | (with_reducible refine blk_drew ?_) | (with_reducible refine blk_alloc ?_ _) | (with_reducible refine blk_far ?_ (by assumption) _) | (first | with_reducible exact BK164.out))) (by kernel_rfl) rfl ?_) | ((with_reducible refine gate_ld (ty := 24) rfl ?_); (try (refine gate_guard (by rfl) ?_; dsimp only)); refine wpList_load_row rfl _ _ rfl _ rfl _ _ _ _ (by repeat (first | ((with_reducible refine gate_row16 ?_); with_reducible exact put16_0_16 (by repeat (first | (with_reducible refine blk_drewN ?_ _) | (with_reducible refine blk_drew ?_) | (with_reducible refine blk_alloc ?_ _) | (first | with_reducible exact BK164.out)))) | (with_reducible refine blk_far ?_ (by assumption) _) | (with_reducible refine blk_set ?_ _ _) | (with_reducible refine blk_drewN ?_ _) | (with_reducible refine blk_drew ?_) | (with_reducible refine blk_alloc ?_ _) | (first | with_reducible exact BK164.out))) Tryd.underlying24 rfl (by kernel_rfl) ?_; (try simp only [List.setIfInBounds_toArray, List.set_cons_zero, List.set_cons_succ])) | ((with_reducible refine gate_callee (f := 28) rfl ?_); refine goesL_ (some 52) rfl rfl Tryd.func28 (by kernel_rfl) rfl #[.string a0] rfl (by (try simp only [List.map_toArray, List.map_cons, List.map_nil]); first | done | rfl | (simp only [List.length_drop, List.length_take]; rfl)) ?_; (with_reducible refine (bpdu_told.calls kj16 a0 t198 t199 t200 t201 t202 t203 t204 t205 t206 t207 t208 t209 t210 t211 t212 t213 _ A46.out).mono ?_); rintro e w47 ⟨rfl, hb⟩; refine ⟨_, rfl, ?_⟩; have n0_ := Aside0.mk (blk_below (g := gb164) (by (with_reducible repeat (first | refine blk_drewN ?_ _ | refine blk_drew ?_ | refine blk_alloc ?_ _)); exact BK164.out) hb); have n1_ := Aside0.mk (below_step (by repeat (first | (with_reducible first | exact HB.out | apply below_alloc | apply pw_below_drewN | apply below_drew1 | refine below_set ?_ GE164.out) | exact HB.out)) hb); clear BK164; clear HB; have BK164 := n0_; have HB := n1_; clear n0_ n1_; (try clear hb); (try clear hb2); (try clear hk); (try clear hi); obtain ⟨hcz48_0, hcz48_1, hcz48_2, hcz48_3, hcz48_4, hcz48_5, hcz48_6, hcz48_7, hcz48_8, hcz48_9, hcz48_10, hcz48_11, hcz48_12, hcz48_13, hcz48_14, hcz48_15⟩ := cells16 BK164.out; obtain ⟨hfz48_0, hfz48_1, hfz48_2, hfz48_3, hfz48_4, hfz48_5, hfz48_6, hfz48_7, hfz48_8, hfz48_9, hfz48_10, hfz48_11, hfz48_12, hfz48_13, hfz48_14, hfz48_15⟩ := frozen16 BK164.out))
             refine bodyPost_ret (results_ct rfl _ _ gb164 24 #[.int .i64 t198, .bool t199, .bool t200, .bool t201, .bool t202, .bool t203, .bool t204, .int .i64 t205, .int .u64 t206, .int .i64 t207, .int .u64 t208, .int .i64 t209, .int .i64 t210, .int .i64 t211, .int .i64 t212, .int .i64 t213] (0, 0) _ rfl (by (with_reducible repeat (first | refine blk_drewN ?_ _ | refine blk_drew ?_ | refine blk_alloc ?_ _)); exact put16_0_16 (by (with_reducible repeat (first | refine blk_drewN ?_ _ | refine blk_drew ?_ | refine blk_alloc ?_ _)); exact BK164.out)) Tryd.underlying24 rfl (by kernel_rfl)) rfl ?_
             exact ⟨by first | rfl | (simp [errW_none, errW_some] <;> rfl) | (simp [*, errW_none, errW_some] <;> rfl) | (simp [*, IntKind.wrap_u32]; done) | (simp_all [IntKind.wrap_u32]; done), by repeat (first | (with_reducible first | exact HB.out | apply below_alloc | apply pw_below_drewN | apply below_drew1 | refine below_set ?_ GE164.out) | exact HB.out)⟩
    ·rw [if_neg c8] at H
     exact absurd H (by simp)
   ·rw [if_neg c7] at H
    exact absurd H (by simp)
  ·replace c6 := Bool.eq_false_iff.mpr c6
   subst c6
   have H1 : (some (0, false, false, false, false, false, false, 0, 0, 0, 0, 0, 0, 0, 0, 0, 91)) = some (r1, r2, r3, r4, r5, r6, r7, r8, r9, r10, r11, r12, r13, r14, r15, r16, r17) := by rw [if_neg (show ¬ (false = true) by decide)] at H; exact H
   clear H
   have H := H1
   clear H1
   simp only [Option.some.injEq, Prod.mk.injEq] at H
   obtain ⟨rfl, rfl, rfl, rfl, rfl, rfl, rfl, rfl, rfl, rfl, rfl, rfl, rfl, rfl, rfl, rfl, rfl⟩ := H
   go_enter Tryd.func13, Tryd.ntmps13
   go_wp2_with (first | ((with_reducible refine gate_st (ty := 24) rfl ?_); (try (refine gate_guard (by rfl) ?_; dsimp only)); refine store16 rfl rfl rfl rfl rfl (by repeat (first | (with_reducible refine blk_drewN ?_ _) | (with_reducible refine blk_drew ?_) | (with_reducible refine blk_alloc ?_ _) | (with_reducible refine blk_far ?_ (by assumption) _) | (first | with_reducible exact BK164.out))) (by kernel_rfl) rfl ?_) | ((with_reducible refine gate_ld (ty := 24) rfl ?_); (try (refine gate_guard (by rfl) ?_; dsimp only)); refine wpList_load_row rfl _ _ rfl _ rfl _ _ _ _ (by repeat (first | ((with_reducible refine gate_row16 ?_); with_reducible exact put16_0_16 (by repeat (first | (with_reducible refine blk_drewN ?_ _) | (with_reducible refine blk_drew ?_) | (with_reducible refine blk_alloc ?_ _) | (first | with_reducible exact BK164.out)))) | (with_reducible refine blk_far ?_ (by assumption) _) | (with_reducible refine blk_set ?_ _ _) | (with_reducible refine blk_drewN ?_ _) | (with_reducible refine blk_drew ?_) | (with_reducible refine blk_alloc ?_ _) | (first | with_reducible exact BK164.out))) Tryd.underlying24 rfl (by kernel_rfl) ?_; (try simp only [List.setIfInBounds_toArray, List.set_cons_zero, List.set_cons_succ])) | ((with_reducible refine gate_dst (N := 2) rfl ?_); (try (refine gate_guard (by rfl) ?_; dsimp only)); refine box_event ?hg (N := 2) ?hd (cs := #[.int .i64 0, .bool false, .bool false, .bool false, .bool false, .bool false, .bool false, .int .i64 0, .int .u64 0, .int .i64 0, .int .u64 0, .int .i64 0, .int .i64 0, .int .i64 0, .int .i64 0, .int .i64 0]) (t := 24) ?hr ?_; (case hd => rfl); (case hg => rfl); (case hr => first | (go_simp; done) | (go_simp; rfl)); intro gb164 hg w49 hbox hb; have n0_ := Aside0.mk (below_step (by repeat (first | (with_reducible first | exact HB.out | apply below_alloc | apply pw_below_drewN | apply below_drew1) | exact HB.out)) hb); have n1_ := Aside0.mk (hbox); have n2_ := Aside0.mk ((by rw [hg]; exact (below_size (by repeat (first | (with_reducible first | exact HB.out | apply below_alloc | apply pw_below_drewN | apply below_drew1) | exact HB.out))) : w.heap.size ≤ gb164)); have n3_ := Aside0.mk ((by rw [hg]; exact (below_size (by repeat (first | (with_reducible first | exact HB.out | apply below_alloc | apply pw_below_drewN | apply below_drew1) | exact HB.out))) : w.heap.size ≤ gb164)); clear HB; have HB := n0_; have BK164 := n1_; have GW164 := n2_; have GE164 := n3_; clear n0_ n1_ n2_ n3_; clear hb hbox hg) | ((with_reducible refine gate_callee (f := 26) rfl ?_); refine goesL_ (some 12) rfl rfl Tryd.func26 (by kernel_rfl) rfl #[.string a0, .string (⟨#[66, 66, 3, 0, 0]⟩ : ByteArray)] rfl (by (try simp only [List.map_toArray, List.map_cons, List.map_nil]); first | done | rfl | (simp only [List.length_drop, List.length_take]; rfl)) ?_; (with_reducible refine (strings_HasPrefix.calls a0 (⟨#[66, 66, 3, 0, 0]⟩ : ByteArray) false _ A5.out).mono ?_); rintro e w' ⟨rfl, ⟨nd, rfl⟩⟩; refine ⟨_, rfl, ?_⟩; (try (rw [drewN_self w49]; generalize hq_ : World.drewN w49 _ = w49; have n0_ : Aside0 (w49.heap[gb164]? = some (.cells #[.int .i64 0, .bool false, .bool false, .bool false, .bool false, .bool false, .bool false, .int .i64 0, .int .u64 0, .int .i64 0, .int .u64 0, .int .i64 0, .int .i64 0, .int .i64 0, .int .i64 0, .int .i64 0] 24 (0, 0))) := ⟨by rw [← hq_]; exact (by (with_reducible repeat (first | refine blk_drewN ?_ _ | refine blk_drew ?_ | refine blk_alloc ?_ _)); exact BK164.out)⟩; have n1_ : Aside0 (Below w.heap.size w w49) := ⟨by rw [← hq_]; exact (by repeat (first | (with_reducible first | exact HB.out | apply below_alloc | apply pw_below_drewN | apply below_drew1 | refine below_set ?_ GE164.out) | exact HB.out))⟩; clear BK164 HB hq_; have BK164 := n0_; have HB := n1_; clear n0_ n1_)); obtain ⟨hcz50_0, hcz50_1, hcz50_2, hcz50_3, hcz50_4, hcz50_5, hcz50_6, hcz50_7, hcz50_8, hcz50_9, hcz50_10, hcz50_11, hcz50_12, hcz50_13, hcz50_14, hcz50_15⟩ := cells16 BK164.out; obtain ⟨hfz50_0, hfz50_1, hfz50_2, hfz50_3, hfz50_4, hfz50_5, hfz50_6, hfz50_7, hfz50_8, hfz50_9, hfz50_10, hfz50_11, hfz50_12, hfz50_13, hfz50_14, hfz50_15⟩ := frozen16 BK164.out))
   refine bodyPost_ret (results_ct rfl _ _ gb164 24 #[.int .i64 0, .bool false, .bool false, .bool false, .bool false, .bool false, .bool false, .int .i64 0, .int .u64 0, .int .i64 0, .int .u64 0, .int .i64 0, .int .i64 0, .int .i64 0, .int .i64 0, .int .i64 0] (0, 0) _ rfl (by (with_reducible repeat (first | refine blk_drewN ?_ _ | refine blk_drew ?_ | refine blk_alloc ?_ _)); exact put16_0_16 (by (with_reducible repeat (first | refine blk_drewN ?_ _ | refine blk_drew ?_ | refine blk_alloc ?_ _)); exact BK164.out)) Tryd.underlying24 rfl (by kernel_rfl)) rfl ?_
   exact ⟨by first | rfl | (simp [errW_none, errW_some] <;> rfl) | (simp [*, errW_none, errW_some] <;> rfl) | (simp [*, IntKind.wrap_u32]; done) | (simp_all [IntKind.wrap_u32]; done), by repeat (first | (with_reducible first | exact HB.out | apply below_alloc | apply pw_below_drewN | apply below_drew1 | refine below_set ?_ GE164.out) | exact HB.out)⟩

end Go.Proofs.YtbfjlhjfpmgplaaDoor.P
