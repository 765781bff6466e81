-- slim
-- Written by wip/hprint.py (this session's program) through the kit's print program; hand contracts are marked 'by hand'.
import Derived.Test.YtbfjlhjfpmgplaaDoorAbb
import Derived.Test.YtbfjlhjfpmgplaaDoorRow
import Derived.Test.YtbfjlhjfpmgplaaDoorPx0
import Derived.Test.YtbfjlhjfpmgplaaDoorPx9
import Derived.Test.YtbfjlhjfpmgplaaDoorPx11
namespace Go.Proofs.YtbfjlhjfpmgplaaDoor.P
open Go.RowKit Go.Proofs.YtbfjlhjfpmgplaaDoorW.PrintWords Go.Proofs.YtbfjlhjfpmgplaaDoorW.PrintLast Go.Proofs.YtbfjlhjfpmgplaaDoorW.PrintMore
attribute [local go_sem] max2_int min2_int max_two min_two max_three min_three max_four min_four   -- for this text's walks alone
set_option linter.unusedVariables false
set_option linter.unusedSimpArgs false

/-! ### bpdu_Parse: function 13 -/
mutual
def bpdu_Parse.j0 : Nat → ByteArray → ByteArray → Bool → Option (Int × Bool × Bool × Bool × Bool × Bool × Bool × Int × Int × Int × Int × Int × Int × Int × Int × Int × Int)
 | 0, _, _, _ => none
 | k + 1, x0, x4, x21 => if x21 = true then (some (0, false, false, false, false, false, false, 0, 0, 0, 0, 0, 0, 0, 0, 0, 91)) else (if (x0.size : Int) < 38 then (bpdu_Parse.j1 k x0 x4 true) else (if x4.toList = ([2, 2] : List UInt8) then (bpdu_Parse.j1 k x0 x4 ((x0.size : Int) == 38)) else (bpdu_Parse.j1 k x0 x4 false)))
def bpdu_Parse.j1 : Nat → ByteArray → ByteArray → Bool → Option (Int × Bool × Bool × Bool × Bool × Bool × Bool × Int × Int × Int × Int × Int × Int × Int × Int × Int × Int)
 | 0, _, _, _ => none
 | k + 1, x0, x4, x29 => if x29 = true then (some (0, false, false, false, false, false, false, 0, 0, 0, 0, 0, 0, 0, 0, 0, 90)) else (if x4.toList = ([2, 2] : List UInt8) then ((bpdu_told.f k x0).bind fun bt139 => (if 7 < (x0.size : Int) then ((bpdu_quick.f bt139.1 bt139.2.1 bt139.2.2.1 bt139.2.2.2.1 bt139.2.2.2.2.1 bt139.2.2.2.2.2.1 bt139.2.2.2.2.2.2.1 bt139.2.2.2.2.2.2.2.1 bt139.2.2.2.2.2.2.2.2.1 bt139.2.2.2.2.2.2.2.2.2.1 bt139.2.2.2.2.2.2.2.2.2.2.1 bt139.2.2.2.2.2.2.2.2.2.2.2.1 bt139.2.2.2.2.2.2.2.2.2.2.2.2.1 bt139.2.2.2.2.2.2.2.2.2.2.2.2.2.1 bt139.2.2.2.2.2.2.2.2.2.2.2.2.2.2.1 bt139.2.2.2.2.2.2.2.2.2.2.2.2.2.2.2 (bt x0 7)).bind fun bt155 => (some (bt155.1, bt155.2.1, bt155.2.2.1, bt155.2.2.2.1, bt155.2.2.2.2.1, bt155.2.2.2.2.2.1, bt155.2.2.2.2.2.2.1, bt155.2.2.2.2.2.2.2.1, bt155.2.2.2.2.2.2.2.2.1, bt155.2.2.2.2.2.2.2.2.2.1, bt155.2.2.2.2.2.2.2.2.2.2.1, bt155.2.2.2.2.2.2.2.2.2.2.2.1, bt155.2.2.2.2.2.2.2.2.2.2.2.2.1, bt155.2.2.2.2.2.2.2.2.2.2.2.2.2.1, bt155.2.2.2.2.2.2.2.2.2.2.2.2.2.2.1, bt155.2.2.2.2.2.2.2.2.2.2.2.2.2.2.2, 0))) else (none))) else ((bpdu_told.f k x0).bind fun bt171 => (some (bt171.1, bt171.2.1, bt171.2.2.1, bt171.2.2.2.1, bt171.2.2.2.2.1, bt171.2.2.2.2.2.1, bt171.2.2.2.2.2.2.1, bt171.2.2.2.2.2.2.2.1, bt171.2.2.2.2.2.2.2.2.1, bt171.2.2.2.2.2.2.2.2.2.1, bt171.2.2.2.2.2.2.2.2.2.2.1, bt171.2.2.2.2.2.2.2.2.2.2.2.1, bt171.2.2.2.2.2.2.2.2.2.2.2.2.1, bt171.2.2.2.2.2.2.2.2.2.2.2.2.2.1, bt171.2.2.2.2.2.2.2.2.2.2.2.2.2.2.1, bt171.2.2.2.2.2.2.2.2.2.2.2.2.2.2.2, 0))))
end
def bpdu_Parse.f (k : Nat) (a0 : ByteArray) : Option (Int × Bool × Bool × Bool × Bool × Bool × Bool × Int × Int × Int × Int × Int × Int × Int × Int × Int × Int) := if (a0.size : Int) < 7 then (some (0, false, false, false, false, false, false, 0, 0, 0, 0, 0, 0, 0, 0, 0, 90)) else ((strings_HasPrefix.f a0 (⟨#[66, 66, 3, 0, 0]⟩ : ByteArray)).bind fun t138 => (if t138 = true then (if 5 ≤ 7 then (if 7 ≤ (a0.size : Int) then (if (a0.extract 5 7).toList = ([0, 128] : List UInt8) then (some (128, false, false, false, false, false, false, 0, 0, 0, 0, 0, 0, 0, 0, 0, 0)) else (if (a0.extract 5 7).toList = ([0, 0] : List UInt8) then (bpdu_Parse.j0 k a0 (a0.extract 5 7) false) else (bpdu_Parse.j0 k a0 (a0.extract 5 7) ((a0.extract 5 7).toList != ([2, 2] : List UInt8))))) else (none)) else (none)) else (some (0, false, false, false, false, false, false, 0, 0, 0, 0, 0, 0, 0, 0, 0, 91))))
theorem bpdu_Parse.mono_l : ∀ k, (∀ y0 y1 y2, LeO (bpdu_Parse.j0 k y0 y1 y2) (bpdu_Parse.j0 (k + 1) y0 y1 y2)) ∧ (∀ y0 y1 y2, LeO (bpdu_Parse.j1 k y0 y1 y2) (bpdu_Parse.j1 (k + 1) y0 y1 y2))
 | 0 => ⟨fun _ _ _ r h => by simp [bpdu_Parse.j0] at h, fun _ _ _ r h => by simp [bpdu_Parse.j1] at h⟩
 | k + 1 => by
  obtain ⟨ih0, ih1⟩ := bpdu_Parse.mono_l k
  refine ⟨?_, ?_⟩
  ·intro y0 y1 y2
   unfold bpdu_Parse.j0
   repeat' first
   | (with_reducible exact ih0 _ _ _)
   | (with_reducible exact ih1 _ _ _)
   | (with_reducible exact bpdu_told.mono _ _)
   | (with_reducible exact LeO.refl _)
   | (with_reducible exact LeO.none _)
   | (with_reducible refine LeO.ite ?_ ?_)
   | (with_reducible refine LeO.bind ?_ (fun _ => ?_))
   | exact ih0 _ _ _
   | exact ih1 _ _ _
   | exact bpdu_told.mono _ _
   | exact LeO.none _
   | refine LeO.ite ?_ ?_
   | refine LeO.bind ?_ (fun _ => ?_)
  ·intro y0 y1 y2
   unfold bpdu_Parse.j1
   repeat' first
   | (with_reducible exact ih0 _ _ _)
   | (with_reducible exact ih1 _ _ _)
   | (with_reducible exact bpdu_told.mono _ _)
   | (with_reducible exact LeO.refl _)
   | (with_reducible exact LeO.none _)
   | (with_reducible refine LeO.ite ?_ ?_)
   | (with_reducible refine LeO.bind ?_ (fun _ => ?_))
   | exact ih0 _ _ _
   | exact ih1 _ _ _
   | exact bpdu_told.mono _ _
   | exact LeO.none _
   | refine LeO.ite ?_ ?_
   | refine LeO.bind ?_ (fun _ => ?_)
theorem bpdu_Parse.mono : ∀ a0 k, LeO (bpdu_Parse.f k a0) (bpdu_Parse.f (k + 1) a0) := by
 intro a0 k
 obtain ⟨ih0, ih1⟩ := bpdu_Parse.mono_l k
 unfold bpdu_Parse.f
 repeat' first
   | (with_reducible exact ih0 _ _ _)
   | (with_reducible exact ih1 _ _ _)
   | (with_reducible exact bpdu_told.mono _ _)
   | (with_reducible exact LeO.refl _)
   | (with_reducible exact LeO.none _)
   | (with_reducible refine LeO.ite ?_ ?_)
   | (with_reducible refine LeO.bind ?_ (fun _ => ?_))
   | exact ih0 _ _ _
   | exact ih1 _ _ _
   | exact bpdu_told.mono _ _
   | exact LeO.none _
   | refine LeO.ite ?_ ?_
   | refine LeO.bind ?_ (fun _ => ?_)
theorem z12_0 {p : Prop} (h : p := by
 rw [if_pos rfl] at H
 simp only [Option.some.injEq, Prod.mk.injEq] at H
 obtain ⟨rfl, rfl, rfl, rfl, rfl, rfl, rfl, rfl, rfl, rfl, rfl, rfl, rfl, rfl, rfl, rfl, rfl⟩ := H
 obtain ⟨hczz0_0, hczz0_1, hczz0_2, hczz0_3, hczz0_4, hczz0_5, hczz0_6, hczz0_7, hczz0_8, hczz0_9, hczz0_10, hczz0_11, hczz0_12, hczz0_13, hczz0_14, hczz0_15⟩ := cells16 BK137.out
 obtain ⟨hfzz0_0, hfzz0_1, hfzz0_2, hfzz0_3, hfzz0_4, hfzz0_5, hfzz0_6, hfzz0_7, hfzz0_8, hfzz0_9, hfzz0_10, hfzz0_11, hfzz0_12, hfzz0_13, hfzz0_14, hfzz0_15⟩ := frozen16 BK137.out
 go_wp2_with (first | ((with_reducible refine gate_st (ty := 24) rfl ?_); refine storeC16 rfl rfl rfl rfl rfl qbw qo qf rfl ?_) | ((with_reducible refine gate_ld (ty := 24) rfl ?_); (try (with_reducible refine gate_gd rfl ?_; refine gate_guard qc8 ?_; dsimp only)); refine load_st rfl rfl rfl qbw qo Tryd.underlying24 rfl qf ?_; (try simp only [Act.put, List.setIfInBounds_toArray, List.set_cons_zero, List.set_cons_succ])) | go_in)
 refine bodyPost_ret (results_ct rfl _ _ gb137 24 #[.int .i64 0, .bool false, .bool false, .bool false, .bool false, .bool false, .bool false, .int .i64 0, .int .u64 0, .int .i64 0, .int .u64 0, .int .i64 0, .int .i64 0, .int .i64 0, .int .i64 0, .int .i64 0] (0, 0) _ rfl qdb Tryd.underlying24 rfl qf) rfl ?_
 exact ⟨by first | rfl | (simp [errW_none, errW_some] <;> rfl) | (simp [*, errW_none, errW_some] <;> rfl) | (simp [*, IntKind.wrap_u32]; done) | (simp_all [IntKind.wrap_u32]; done), by repeat (first | (with_reducible first | exact HB.out | apply below_alloc | apply pw_below_drewN | apply below_drew1 | refine below_set ?_ GE137.out) | exact HB.out)⟩) : p := h
theorem z12_1 {p : Prop} (h : p := by
 simp only [Act.put, List.setIfInBounds_toArray, List.set_cons_zero, List.set_cons_succ, i64_w, i32_w]
 rfl) : p := h
set_option maxHeartbeats 8000000 in
set_option maxRecDepth 100000 in
theorem bpdu_Parse.calls (k : Nat) (a0 : ByteArray) (r1 : Int) (r2 : Bool) (r3 : Bool) (r4 : Bool) (r5 : Bool) (r6 : Bool) (r7 : Bool) (r8 : Int) (r9 : Int) (r10 : Int) (r11 : Int) (r12 : Int) (r13 : Int) (r14 : Int) (r15 : Int) (r16 : Int) (r17 : Int) (w : World) (h : bpdu_Parse.f k a0 = some (r1, r2, r3, r4, r5, r6, r7, r8, r9, r10, r11, r12, r13, r14, r15, r16, r17)) :
  Calls Tryd.prog 13 #[.string a0] w fun e w' => e = .returned (.tuple #[.agg #[.int .i64 r1, .bool r2, .bool r3, .bool r4, .bool r5, .bool r6, .bool r7, .int .i64 r8, .int .u64 r9, .int .i64 r10, .int .u64 r11, .int .i64 r12, .int .i64 r13, .int .i64 r14, .int .i64 r15, .int .i64 r16], .int .i64 r17]) ∧ Below w.heap.size w w' := by
 have hu24 := Tryd.underlying24
 have HB := Aside0.mk (Below.refl w.heap.size w)
 have H : (if (a0.size : Int) < 7 then (some (0, false, false, false, false, false, false, 0, 0, 0, 0, 0, 0, 0, 0, 0, 90)) else ((strings_HasPrefix.f a0 (⟨#[66, 66, 3, 0, 0]⟩ : ByteArray)).bind fun t138 => (if t138 = true then (if 5 ≤ 7 then (if 7 ≤ (a0.size : Int) then (if (a0.extract 5 7).toList = ([0, 128] : List UInt8) then (some (128, false, false, false, false, false, false, 0, 0, 0, 0, 0, 0, 0, 0, 0, 0)) else (if (a0.extract 5 7).toList = ([0, 0] : List UInt8) then (bpdu_Parse.j0 k a0 (a0.extract 5 7) false) else (bpdu_Parse.j0 k a0 (a0.extract 5 7) ((a0.extract 5 7).toList != ([2, 2] : List UInt8))))) else (none)) else (none)) else (some (0, false, false, false, false, false, false, 0, 0, 0, 0, 0, 0, 0, 0, 0, 91))))) = some (r1, r2, r3, r4, r5, r6, r7, r8, r9, r10, r11, r12, r13, r14, r15, r16, r17) := h
 clear h
 by_cases c2 : (a0.size : Int) < 7
 ·rw [if_pos c2] at H
  have c2b0 : decide ((a0.size : Int) < 7) = true := decide_eq_true c2
  have c2b1 : decide (a0.size < 7) = true := decide_eq_true qc
  clear c2
  simp only [Option.some.injEq, Prod.mk.injEq] at H
  obtain ⟨rfl, rfl, rfl, rfl, rfl, rfl, rfl, rfl, rfl, rfl, rfl, rfl, rfl, rfl, rfl, rfl, rfl⟩ := H
  go_enter Tryd.func13, Tryd.ntmps13
  go_wp2_with (first | ((with_reducible refine gate_st (ty := 24) rfl ?_); refine storeC16 rfl rfl rfl rfl rfl qbw qo qf rfl ?_) | ((with_reducible refine gate_ld (ty := 24) rfl ?_); (try (with_reducible refine gate_gd rfl ?_; refine gate_guard qc8 ?_; dsimp only)); refine load_st rfl rfl rfl qbw qo Tryd.underlying24 rfl qf ?_; (try simp only [Act.put, List.setIfInBounds_toArray, List.set_cons_zero, List.set_cons_succ])) | ((with_reducible refine gate_dst (N := 2) rfl ?_); (try (refine gate_guard qa ?_; dsimp only)); refine box_event ?hg (N := 2) ?hd (cs := #[.int .i64 0, .bool false, .bool false, .bool false, .bool false, .bool false, .bool false, .int .i64 0, .int .u64 0, .int .i64 0, .int .u64 0, .int .i64 0, .int .i64 0, .int .i64 0, .int .i64 0, .int .i64 0]) (t := 24) ?hr ?_; (case hd => rfl); (case hg => rfl); (case hr => first | (go_simp; done) | (go_simp; rfl)); intro gb137 hg w3 hbox hb; have n0_ := Aside0.mk (below_step qbh hb); have n1_ := Aside0.mk (hbox); have n2_ := Aside0.mk ((qcq : w.heap.size ≤ gb137)); have n3_ := Aside0.mk ((qcq : w.heap.size ≤ gb137)); clear HB; have HB := n0_; have BK137 := n1_; have GW137 := n2_; have GE137 := n3_; clear n0_ n1_ n2_ n3_; clear hb hbox hg; obtain ⟨hcz4_0, hcz4_1, hcz4_2, hcz4_3, hcz4_4, hcz4_5, hcz4_6, hcz4_7, hcz4_8, hcz4_9, hcz4_10, hcz4_11, hcz4_12, hcz4_13, hcz4_14, hcz4_15⟩ := cells16 BK137.out; obtain ⟨hfz4_0, hfz4_1, hfz4_2, hfz4_3, hfz4_4, hfz4_5, hfz4_6, hfz4_7, hfz4_8, hfz4_9, hfz4_10, hfz4_11, hfz4_12, hfz4_13, hfz4_14, hfz4_15⟩ := frozen16 BK137.out))
  refine bodyPost_ret (results_ct rfl _ _ gb137 24 #[.int .i64 0, .bool false, .bool false, .bool false, .bool false, .bool false, .bool false, .int .i64 0, .int .u64 0, .int .i64 0, .int .u64 0, .int .i64 0, .int .i64 0, .int .i64 0, .int .i64 0, .int .i64 0] (0, 0) _ rfl qdb Tryd.underlying24 rfl qf) rfl ?_
  exact ⟨by first | rfl | (simp [errW_none, errW_some] <;> rfl) | (simp [*, errW_none, errW_some] <;> rfl) | (simp [*, IntKind.wrap_u32]; done) | (simp_all [IntKind.wrap_u32]; done), by repeat (first | (with_reducible first | exact HB.out | apply below_alloc | apply pw_below_drewN | apply below_drew1 | refine below_set ?_ GE137.out) | exact HB.out)⟩
 ·rw [if_neg c2] at H
  have c2b0 : decide ((a0.size : Int) < 7) = false := decide_eq_false c2
  have c2b1 : decide (a0.size < 7) = false := decide_eq_false qc
  clear c2
  replace H := Option.bind_eq_some_iff.mp H
  obtain ⟨t138, A50, H⟩ := H
  try dsimp only at H
  have A5 := Aside0.mk A50
  clear A50
  by_cases c6 : t138 = true
  ·subst c6
   rw [if_pos rfl] at H
   by_cases c7 : 5 ≤ 7
   ·rw [if_pos c7] at H
    have c7b0 := eq_true c7
    have c7b1 : decide (5 ≤ 7) = true := decide_eq_true c7
    clear c7
    by_cases c8 : 7 ≤ (a0.size : Int)
    ·rw [if_pos c8] at H
     have c8b0 := eq_true c8
     have c8b1 : decide (7 ≤ (a0.size : Int)) = true := decide_eq_true c8
     clear c8
     by_cases c9 : (a0.extract 5 7).toList = ([0, 128] : List UInt8)
     ·rw [if_pos c9] at H
      have c9b0 : ((a0.extract 5 7).toList == ([0, 128] : List UInt8)) = true := beq_iff_eq.mpr c9
      have c9b1 : ((a0.extract 5 7).toList != ([0, 128] : List UInt8)) = false := bne_eq_false_iff_eq.mpr c9
      clear c9
      simp only [Option.some.injEq, Prod.mk.injEq] at H
      obtain ⟨rfl, rfl, rfl, rfl, rfl, rfl, rfl, rfl, rfl, rfl, rfl, rfl, rfl, rfl, rfl, rfl, rfl⟩ := H
      go_enter Tryd.func13, Tryd.ntmps13
      go_wp2_with (first | ((with_reducible refine gate_st (ty := 24) rfl ?_); refine storeC16 rfl rfl rfl rfl rfl qbw qo qf rfl ?_) | ((with_reducible refine gate_ld (ty := 24) rfl ?_); (try (with_reducible refine gate_gd rfl ?_; refine gate_guard qc8 ?_; dsimp only)); refine load_st rfl rfl rfl qbw qo Tryd.underlying24 rfl qf ?_; (try simp only [Act.put, List.setIfInBounds_toArray, List.set_cons_zero, List.set_cons_succ])) | ((with_reducible refine gate_dst (N := 2) rfl ?_); (try (refine gate_guard qa ?_; dsimp only)); refine box_event ?hg (N := 2) ?hd (cs := #[.int .i64 0, .bool false, .bool false, .bool false, .bool false, .bool false, .bool false, .int .i64 0, .int .u64 0, .int .i64 0, .int .u64 0, .int .i64 0, .int .i64 0, .int .i64 0, .int .i64 0, .int .i64 0]) (t := 24) ?hr ?_; (case hd => rfl); (case hg => rfl); (case hr => first | (go_simp; done) | (go_simp; rfl)); intro gb137 hg w10 hbox hb; have n0_ := Aside0.mk (below_step qbh hb); have n1_ := Aside0.mk (hbox); have n2_ := Aside0.mk ((qcq : w.heap.size ≤ gb137)); have n3_ := Aside0.mk ((qcq : w.heap.size ≤ gb137)); clear HB; have HB := n0_; have BK137 := n1_; have GW137 := n2_; have GE137 := n3_; clear n0_ n1_ n2_ n3_; clear hb hbox hg) | ((with_reducible refine gate_callee (f := 26) rfl ?_); refine goesL_ (some 12) rfl rfl Tryd.func26 qf rfl #[.string a0, .string (⟨#[66, 66, 3, 0, 0]⟩ : ByteArray)] rfl qbi ?_; (with_reducible refine (strings_HasPrefix.calls a0 (⟨#[66, 66, 3, 0, 0]⟩ : ByteArray) true _ A5.out).mono ?_); rintro e w' ⟨rfl, ⟨nd, rfl⟩⟩; refine ⟨_, rfl, ?_⟩; (try (rw [drewN_self w10]; generalize hq_ : World.drewN w10 _ = w10; have n0_ : Aside0 (w10.heap[gb137]? = some (.cells #[.int .i64 0, .bool false, .bool false, .bool false, .bool false, .bool false, .bool false, .int .i64 0, .int .u64 0, .int .i64 0, .int .u64 0, .int .i64 0, .int .i64 0, .int .i64 0, .int .i64 0, .int .i64 0] 24 (0, 0))) := ⟨by rw [← hq_]; exact q5⟩; have n1_ : Aside0 (Below w.heap.size w w10) := ⟨by rw [← hq_]; exact qbq⟩; clear BK137 HB hq_; have BK137 := n0_; have HB := n1_; clear n0_ n1_)); obtain ⟨hcz11_0, hcz11_1, hcz11_2, hcz11_3, hcz11_4, hcz11_5, hcz11_6, hcz11_7, hcz11_8, hcz11_9, hcz11_10, hcz11_11, hcz11_12, hcz11_13, hcz11_14, hcz11_15⟩ := cells16 BK137.out; obtain ⟨hfz11_0, hfz11_1, hfz11_2, hfz11_3, hfz11_4, hfz11_5, hfz11_6, hfz11_7, hfz11_8, hfz11_9, hfz11_10, hfz11_11, hfz11_12, hfz11_13, hfz11_14, hfz11_15⟩ := frozen16 BK137.out))
      refine bodyPost_ret (results_ct rfl _ _ gb137 24 #[.int .i64 128, .bool false, .bool false, .bool false, .bool false, .bool false, .bool false, .int .i64 0, .int .u64 0, .int .i64 0, .int .u64 0, .int .i64 0, .int .i64 0, .int .i64 0, .int .i64 0, .int .i64 0] (0, 0) _ rfl qdb Tryd.underlying24 rfl qf) rfl ?_
      exact ⟨by first | rfl | (simp [errW_none, errW_some] <;> rfl) | (simp [*, errW_none, errW_some] <;> rfl) | (simp [*, IntKind.wrap_u32]; done) | (simp_all [IntKind.wrap_u32]; done), by repeat (first | (with_reducible first | exact HB.out | apply below_alloc | apply pw_below_drewN | apply below_drew1 | refine below_set ?_ GE137.out) | exact HB.out)⟩
     ·rw [if_neg c9] at H
      have c9b0 : ((a0.extract 5 7).toList == ([0, 128] : List UInt8)) = false := beq_eq_false_iff_ne.mpr c9
      have c9b1 : ((a0.extract 5 7).toList != ([0, 128] : List UInt8)) = true := bne_iff_ne.mpr c9
      have HC12 := Aside0.mk H
      clear H
      go_enter Tryd.func13, Tryd.ntmps13
      go_upto_region 8 with (first | ((with_reducible refine gate_st (ty := 24) rfl ?_); refine storeC16 rfl rfl rfl rfl rfl qbw qo qf rfl ?_) | ((with_reducible refine gate_ld (ty := 24) rfl ?_); (try (with_reducible refine gate_gd rfl ?_; refine gate_guard qc8 ?_; dsimp only)); refine load_st rfl rfl rfl qbw qo Tryd.underlying24 rfl qf ?_; (try simp only [Act.put, List.setIfInBounds_toArray, List.set_cons_zero, List.set_cons_succ])) | ((with_reducible refine gate_dst (N := 2) rfl ?_); (try (refine gate_guard qa ?_; dsimp only)); refine box_event ?hg (N := 2) ?hd (cs := #[.int .i64 0, .bool false, .bool false, .bool false, .bool false, .bool false, .bool false, .int .i64 0, .int .u64 0, .int .i64 0, .int .u64 0, .int .i64 0, .int .i64 0, .int .i64 0, .int .i64 0, .int .i64 0]) (t := 24) ?hr ?_; (case hd => rfl); (case hg => rfl); (case hr => first | (go_simp; done) | (go_simp; rfl)); intro gb137 hg w13 hbox hb; have n0_ := Aside0.mk (below_step qbh hb); have n1_ := Aside0.mk (hbox); have n2_ := Aside0.mk ((qcq : w.heap.size ≤ gb137)); have n3_ := Aside0.mk ((qcq : w.heap.size ≤ gb137)); clear HB; have HB := n0_; have BK137 := n1_; have GW137 := n2_; have GE137 := n3_; clear n0_ n1_ n2_ n3_; clear hb hbox hg) | ((with_reducible refine gate_callee (f := 26) rfl ?_); refine goesL_ (some 12) rfl rfl Tryd.func26 qf rfl #[.string a0, .string (⟨#[66, 66, 3, 0, 0]⟩ : ByteArray)] rfl qbi ?_; (with_reducible refine (strings_HasPrefix.calls a0 (⟨#[66, 66, 3, 0, 0]⟩ : ByteArray) true _ A5.out).mono ?_); rintro e w' ⟨rfl, ⟨nd, rfl⟩⟩; refine ⟨_, rfl, ?_⟩))
      (try simp only [Act.put, List.setIfInBounds_toArray, List.set_cons_zero, List.set_cons_succ])
      go_cut [21] (fun v21 wc => ∃ (kq : Nat) (x21_11 : Bool), v21 = .bool x21_11 ∧ Aside0 (bpdu_Parse.j0 kq a0 (a0.extract 5 7) x21_11 = some (r1, r2, r3, r4, r5, r6, r7, r8, r9, r10, r11, r12, r13, r14, r15, r16, r17)) ∧ Aside0 (kq ≤ k) ∧ Aside0 (wc.heap[gb137]? = some (.cells #[.int .i64 0, .bool false, .bool false, .bool false, .bool false, .bool false, .bool false, .int .i64 0, .int .u64 0, .int .i64 0, .int .u64 0, .int .i64 0, .int .i64 0, .int .i64 0, .int .i64 0, .int .i64 0] 24 (0, 0))) ∧ Aside0 (Below w.heap.size w wc))
      case first =>
       have H := HC12.out
       clear HC12
       by_cases c14 : (a0.extract 5 7).toList = ([0, 0] : List UInt8)
       ·rw [if_pos c14] at H
        have c14b0 : ((a0.extract 5 7).toList == ([0, 0] : List UInt8)) = true := beq_iff_eq.mpr c14
        have c14b1 : ((a0.extract 5 7).toList != ([0, 0] : List UInt8)) = false := bne_eq_false_iff_eq.mpr c14
        clear c14
        (first | rw [c14b0] | (simp only [i64_w, i32_w]; rw [c14b0]) | skip)
        have H' := Aside0.mk H
        clear H
        go_wp2_with (first | ((with_reducible refine gate_st (ty := 24) rfl ?_); refine storeC16 rfl rfl rfl rfl rfl qbw qo qf rfl ?_) | ((with_reducible refine gate_ld (ty := 24) rfl ?_); (try (with_reducible refine gate_gd rfl ?_; refine gate_guard qc8 ?_; dsimp only)); refine load_st rfl rfl rfl qbw qo Tryd.underlying24 rfl qf ?_; (try simp only [Act.put, List.setIfInBounds_toArray, List.set_cons_zero, List.set_cons_succ])) | go_in)
        go_meet
        case rel => exact ⟨_, (false), qk, H', ⟨by first | omega | exact Nat.le_refl _⟩, ⟨by (with_reducible repeat (first | refine blk_drewN ?_ _ | refine blk_drew ?_ | refine blk_alloc ?_ _)); exact BK137.out⟩, ⟨by repeat (first | (with_reducible first | exact HB.out | apply below_alloc | apply pw_below_drewN | apply below_drew1 | refine below_set ?_ GE137.out) | exact HB.out)⟩⟩
       ·rw [if_neg c14] at H
        have c14b0 : ((a0.extract 5 7).toList == ([0, 0] : List UInt8)) = false := beq_eq_false_iff_ne.mpr c14
        have c14b1 : ((a0.extract 5 7).toList != ([0, 0] : List UInt8)) = true := bne_iff_ne.mpr c14
        (first | rw [c14b0] | (simp only [i64_w, i32_w]; rw [c14b0]) | skip)
        have H' := Aside0.mk H
        clear H
        go_wp2_with (first | ((with_reducible refine gate_st (ty := 24) rfl ?_); refine storeC16 rfl rfl rfl rfl rfl qbw qo qf rfl ?_) | ((with_reducible refine gate_ld (ty := 24) rfl ?_); (try (with_reducible refine gate_gd rfl ?_; refine gate_guard qc8 ?_; dsimp only)); refine load_st rfl rfl rfl qbw qo Tryd.underlying24 rfl qf ?_; (try simp only [Act.put, List.setIfInBounds_toArray, List.set_cons_zero, List.set_cons_succ])) | go_in)
        go_meet
        case rel => exact ⟨_, (((a0.extract 5 7).toList != ([2, 2] : List UInt8))), qk, H', ⟨by first | omega | exact Nat.le_refl _⟩, ⟨by (with_reducible repeat (first | refine blk_drewN ?_ _ | refine blk_drew ?_ | refine blk_alloc ?_ _)); exact BK137.out⟩, ⟨by repeat (first | (with_reducible first | exact HB.out | apply below_alloc | apply pw_below_drewN | apply below_drew1 | refine below_set ?_ GE137.out) | exact HB.out)⟩⟩
      case rest =>
       clear HC12
       try clear c1
       try clear c2
       try clear c2b0
       try clear c2b1
       try clear p2
       try clear c6
       try clear c7
       try clear c7b0
       try clear c7b1
       try clear c8
       try clear c8b0
       try clear c8b1
       try clear c9
       try clear c9b0
       try clear c9b1
       try clear c13
       try clear c14
       try clear c14b0
       try clear c14b1
       obtain ⟨kq, x21_11, rfl, HA, HJ11, BK137, HB⟩ := hcut
       cases kq with
       | zero => exact absurd HA.out (by simp [bpdu_Parse.j0])
       | succ kj11 =>
        have H := HA.out
        clear HA
        simp only [bpdu_Parse.j0] at H
        by_cases c15 : x21_11 = true
        ·subst c15
         exact z12_0
        ·replace c15 := Bool.eq_false_iff.mpr c15
         subst c15
         rw [if_neg (show ¬ (false = true) by decide)] at H
         have HC17 := Aside0.mk H
         clear H
         go_upto_region 10 with (fail)
         go_cut [29] (fun v29 wc => ∃ (kq : Nat) (x29_16 : Bool), v29 = .bool x29_16 ∧ Aside0 (bpdu_Parse.j1 kq a0 (a0.extract 5 7) x29_16 = some (r1, r2, r3, r4, r5, r6, r7, r8, r9, r10, r11, r12, r13, r14, r15, r16, r17)) ∧ Aside0 (kq ≤ kj11) ∧ Aside0 (wc.heap[gb137]? = some (.cells #[.int .i64 0, .bool false, .bool false, .bool false, .bool false, .bool false, .bool false, .int .i64 0, .int .u64 0, .int .i64 0, .int .u64 0, .int .i64 0, .int .i64 0, .int .i64 0, .int .i64 0, .int .i64 0] 24 (0, 0))) ∧ Aside0 (Below w.heap.size w wc))
         case first =>
          have H := HC17.out
          clear HC17
          by_cases c18 : (a0.size : Int) < 38
          ·rw [if_pos c18] at H
           have c18b0 : decide ((a0.size : Int) < 38) = true := decide_eq_true c18
           have c18b1 : decide (a0.size < 38) = true := decide_eq_true qc
           clear c18
           (first | rw [c18b0] | (simp only [i64_w, i32_w]; rw [c18b0]) | skip)
           have H' := Aside0.mk H
           clear H
           go_wp2_with (first | ((with_reducible refine gate_st (ty := 24) rfl ?_); refine storeC16 rfl rfl rfl rfl rfl qbw qo qf rfl ?_) | ((with_reducible refine gate_ld (ty := 24) rfl ?_); (try (with_reducible refine gate_gd rfl ?_; refine gate_guard qc8 ?_; dsimp only)); refine load_st rfl rfl rfl qbw qo Tryd.underlying24 rfl qf ?_; (try simp only [Act.put, List.setIfInBounds_toArray, List.set_cons_zero, List.set_cons_succ])) | go_in)
           go_meet
           case rel => exact ⟨_, (true), qk, H', ⟨by have := HJ11.out; first | omega | exact Nat.le_refl _⟩, ⟨by (with_reducible repeat (first | refine blk_drewN ?_ _ | refine blk_drew ?_ | refine blk_alloc ?_ _)); exact BK137.out⟩, ⟨by repeat (first | (with_reducible first | exact HB.out | apply below_alloc | apply pw_below_drewN | apply below_drew1 | refine below_set ?_ GE137.out) | exact HB.out)⟩⟩
          ·rw [if_neg c18] at H
           have c18b0 : decide ((a0.size : Int) < 38) = false := decide_eq_false c18
           have c18b1 : decide (a0.size < 38) = false := decide_eq_false qc
           clear c18
           (first | rw [c18b0] | (simp only [i64_w, i32_w]; rw [c18b0]) | skip)
           by_cases c19 : (a0.extract 5 7).toList = ([2, 2] : List UInt8)
           ·rw [if_pos c19] at H
            have c19b0 : ((a0.extract 5 7).toList == ([2, 2] : List UInt8)) = true := beq_iff_eq.mpr c19
            have c19b1 : ((a0.extract 5 7).toList != ([2, 2] : List UInt8)) = false := bne_eq_false_iff_eq.mpr c19
            clear c19
            have H' := Aside0.mk H
            clear H
            go_wp2_with (first | ((with_reducible refine gate_st (ty := 24) rfl ?_); refine storeC16 rfl rfl rfl rfl rfl qbw qo qf rfl ?_) | ((with_reducible refine gate_ld (ty := 24) rfl ?_); (try (with_reducible refine gate_gd rfl ?_; refine gate_guard qc8 ?_; dsimp only)); refine load_st rfl rfl rfl qbw qo Tryd.underlying24 rfl qf ?_; (try simp only [Act.put, List.setIfInBounds_toArray, List.set_cons_zero, List.set_cons_succ])) | go_in)
            go_meet
            case rel => exact ⟨_, (((a0.size : Int) == 38)), qk, H', ⟨by have := HJ11.out; first | omega | exact Nat.le_refl _⟩, ⟨by (with_reducible repeat (first | refine blk_drewN ?_ _ | refine blk_drew ?_ | refine blk_alloc ?_ _)); exact BK137.out⟩, ⟨by repeat (first | (with_reducible first | exact HB.out | apply below_alloc | apply pw_below_drewN | apply below_drew1 | refine below_set ?_ GE137.out) | exact HB.out)⟩⟩
           ·rw [if_neg c19] at H
            have c19b0 : ((a0.extract 5 7).toList == ([2, 2] : List UInt8)) = false := beq_eq_false_iff_ne.mpr c19
            have c19b1 : ((a0.extract 5 7).toList != ([2, 2] : List UInt8)) = true := bne_iff_ne.mpr c19
            have H' := Aside0.mk H
            clear H
            go_wp2_with (first | ((with_reducible refine gate_st (ty := 24) rfl ?_); refine storeC16 rfl rfl rfl rfl rfl qbw qo qf rfl ?_) | ((with_reducible refine gate_ld (ty := 24) rfl ?_); (try (with_reducible refine gate_gd rfl ?_; refine gate_guard qc8 ?_; dsimp only)); refine load_st rfl rfl rfl qbw qo Tryd.underlying24 rfl qf ?_; (try simp only [Act.put, List.setIfInBounds_toArray, List.set_cons_zero, List.set_cons_succ])) | go_in)
            go_meet
            case rel => exact ⟨_, (false), qk, H', ⟨by have := HJ11.out; first | omega | exact Nat.le_refl _⟩, ⟨by (with_reducible repeat (first | refine blk_drewN ?_ _ | refine blk_drew ?_ | refine blk_alloc ?_ _)); exact BK137.out⟩, ⟨by repeat (first | (with_reducible first | exact HB.out | apply below_alloc | apply pw_below_drewN | apply below_drew1 | refine below_set ?_ GE137.out) | exact HB.out)⟩⟩
         case rest =>
          clear HC17
          try clear c1
          try clear c2
          try clear c2b0
          try clear c2b1
          try clear p2
          try clear c6
          try clear c7
          try clear c7b0
          try clear c7b1
          try clear c8
          try clear c8b0
          try clear c8b1
          try clear c9
          try clear c9b0
          try clear c9b1
          try clear c13
          try clear c14
          try clear c14b0
          try clear c14b1
          try clear c15
          try clear c18
          try clear c18b0
          try clear c18b1
          try clear c19
          try clear c19b0
          try clear c19b1
          try clear p2
          obtain ⟨kq, x29_16, rfl, HA, HJ16, BK137, HB⟩ := hcut
          cases kq with
          | zero => exact absurd HA.out (by simp [bpdu_Parse.j1])
          | succ kj16 =>
           have H := HA.out
           clear HA
           simp only [bpdu_Parse.j1] at H
           by_cases c20 : x29_16 = true
           ·subst c20
            exact z12_0
           ·replace c20 := Bool.eq_false_iff.mpr c20
            subst c20
            rw [if_neg (show ¬ (false = true) by decide)] at H
            by_cases c22 : (a0.extract 5 7).toList = ([2, 2] : List UInt8)
            ·rw [if_pos c22] at H
             have c22b0 : ((a0.extract 5 7).toList == ([2, 2] : List UInt8)) = true := beq_iff_eq.mpr c22
             have c22b1 : ((a0.extract 5 7).toList != ([2, 2] : List UInt8)) = false := bne_eq_false_iff_eq.mpr c22
             clear c22
             replace H := Option.bind_eq_some_iff.mp H
             obtain ⟨⟨t139, t140, t141, t142, t143, t144, t145, t146, t147, t148, t149, t150, t151, t152, t153, t154⟩, A230, H⟩ := H
             try dsimp only at H
             have A23 := Aside0.mk A230
             clear A230
             by_cases c24 : 7 < (a0.size : Int)
             ·rw [if_pos c24] at H
              have c24b0 : decide (7 < (a0.size : Int)) = true := decide_eq_true c24
              have c24b1 : decide (7 < a0.size) = true := decide_eq_true qc
              clear c24
              replace H := Option.bind_eq_some_iff.mp H
              obtain ⟨⟨t155, t156, t157, t158, t159, t160, t161, t162, t163, t164, t165, t166, t167, t168, t169, t170⟩, A260, H⟩ := H
              try dsimp only at H
              have A26 := Aside0.mk A260
              clear A260
              simp only [Option.some.injEq, Prod.mk.injEq] at H
              obtain ⟨rfl, rfl, rfl, rfl, rfl, rfl, rfl, rfl, rfl, rfl, rfl, rfl, rfl, rfl, rfl, rfl, rfl⟩ := H
              try go_wp2_with (first | ((with_reducible refine gate_st (ty := 24) rfl ?_); refine storeC16 rfl rfl rfl rfl rfl qbw qo qf rfl ?_) | ((with_reducible refine gate_ld (ty := 24) rfl ?_); (try (with_reducible refine gate_gd rfl ?_; refine gate_guard qc8 ?_; dsimp only)); refine load_st rfl rfl rfl qbw qo Tryd.underlying24 rfl qf ?_; (try simp only [Act.put, List.setIfInBounds_toArray, List.set_cons_zero, List.set_cons_succ])) | go_in)
              have n0_ := Aside0.mk (blk_drew BK137.out)
              have n1_ := Aside0.mk (below_drew1 HB.out)
              clear BK137
              clear HB
              have BK137 := n0_
              have HB := n1_
              clear n0_ n1_
              have p25 : 0 ≤ (7 : Int) := qc
              have q25 : 7 < a0.size := (by have : (7 : Int) < (a0.size : Int) := of_decide_eq_true ql; omega)
              have hx25 : ∀ h : 7 < a0.size, ((a0[7]'h).toNat : Int) = bt a0 7 := bt_at a0 7
              clear p25
              have qi25 : (7 < (a0.size : Int)) = True := eq_true (of_decide_eq_true ql)
              replace q25 := eq_true q25
              refine start_ (n := 7) (S := fun w' => True) (ds := []) #[false, false, false, false, false, false, false] qf rfl rfl trivial (fun hHeld => ?_)
              generalize wc.drew = w27 at BK137 HB hHeld ⊢
              refine pure_ (i := 0) (N := some 46) (v := ?_) (a' := ?_) #[true, false, false, false, false, false, false] rfl rfl qf (fun _ _ _ h => h) (Or.inl ⟨by rfl, ?_⟩) ?_ ?_
              rotate_left
              ·intro w'
               go_simp
               with_reducible rfl
              rotate_left
              ·exact z12_1
              refine pure_ (i := 2) (N := some 48) (v := ?_) (a' := ?_) #[true, false, true, false, false, false, false] rfl rfl qf (fun _ _ _ h => h) (Or.inl ⟨by rfl, ?_⟩) ?_ ?_
              rotate_left
              ·intro w'
               go_simp
               with_reducible rfl
              rotate_left
              ·exact z12_1
              refine take_ (i := 3) (N := some 49) (v := ?_) (a' := ?_) #[true, false, true, true, false, false, false] rfl rfl qf (fun _ _ _ h => h) (Or.inl ⟨by rfl, ?_⟩) hHeld ?_ ?_
              rotate_left
              ·intro w' _
               go_simp
               with_reducible rfl
              rotate_left
              ·exact z12_1
              refine one_ (i := 1) (N := some 47) #[true, true, true, true, false, false, false] rfl rfl qf qd (fun K hK => ?_)
              refine goes_ Tryd.func28 qf rfl #[.string a0] qcx rfl rfl qbi ?_
              with_reducible refine (bpdu_told.calls kj16 a0 t139 t140 t141 t142 t143 t144 t145 t146 t147 t148 t149 t150 t151 t152 t153 t154 _ A23.out).mono ?_
              rintro e w28 ⟨rfl, hb⟩
              refine ⟨_, rfl, ?_⟩
              have n0_ := Aside0.mk (blk_below (g := gb137) (o := .cells #[.int .i64 0, .bool false, .bool false, .bool false, .bool false, .bool false, .bool false, .int .i64 0, .int .u64 0, .int .i64 0, .int .u64 0, .int .i64 0, .int .i64 0, .int .i64 0, .int .i64 0, .int .i64 0] 24 (0, 0)) q5 hb)
              have n1_ := Aside0.mk (below_step qbq hb)
              clear BK137
              clear HB
              have BK137 := n0_
              have HB := n1_
              clear n0_ n1_
              (try clear hb)
              (try clear hb2)
              (try clear hk)
              (try clear hi)
              refine hK.out _ _ trivial (fun hHeld => ?_)
              clear hK K
              refine norm_ (a' := ?_) ?_ ?_
              rotate_left
              ·show Act.put _ (some 47) _ = _
               simp only [Act.put, List.setIfInBounds_toArray, List.set_cons_zero, List.set_cons_succ, i64_w, i32_w]
               rfl
              refine one_ (i := 4) (N := some 50) #[true, true, true, true, true, false, false] rfl rfl qf qd (fun K hK => ?_)
              refine goes_ Tryd.func27 qf rfl #[.agg #[.int .i64 t139, .bool t140, .bool t141, .bool t142, .bool t143, .bool t144, .bool t145, .int .i64 t146, .int .u64 t147, .int .i64 t148, .int .u64 t149, .int .i64 t150, .int .i64 t151, .int .i64 t152, .int .i64 t153, .int .i64 t154], .int .u8 (bt a0 7)] qcx rfl rfl qbi ?_
              with_reducible refine (bpdu_quick.calls t139 t140 t141 t142 t143 t144 t145 t146 t147 t148 t149 t150 t151 t152 t153 t154 (bt a0 7) t155 t156 t157 t158 t159 t160 t161 t162 t163 t164 t165 t166 t167 t168 t169 t170 _ A26.out).mono ?_
              rintro e w29 ⟨rfl, hb⟩
              refine ⟨_, rfl, ?_⟩
              have n0_ := Aside0.mk (blk_below (g := gb137) (o := .cells #[.int .i64 0, .bool false, .bool false, .bool false, .bool false, .bool false, .bool false, .int .i64 0, .int .u64 0, .int .i64 0, .int .u64 0, .int .i64 0, .int .i64 0, .int .i64 0, .int .i64 0, .int .i64 0] 24 (0, 0)) q5 hb)
              have n1_ := Aside0.mk (below_step qbq hb)
              clear BK137
              clear HB
              have BK137 := n0_
              have HB := n1_
              clear n0_ n1_
              (try clear hb)
              (try clear hb2)
              (try clear hk)
              (try clear hi)
              refine hK.out _ _ trivial (fun hHeld => ?_)
              clear hK K
              refine norm_ (a' := ?_) ?_ ?_
              rotate_left
              ·show Act.put _ (some 50) _ = _
               simp only [Act.put, List.setIfInBounds_toArray, List.set_cons_zero, List.set_cons_succ, i64_w, i32_w]
               rfl
              refine one_ (i := 5) (N := none) #[true, true, true, true, true, true, false] rfl rfl qf qd (fun K hK => ?_)
              have hs30 : w29.cell? ⟨gb137, 0, none⟩ = some (.int .i64 0) := (blk_cell BK137.out 0).trans rfl
              have hfs30 := blk_frozen BK137.out 0
              have hs31 : w29.cell? ⟨gb137, 1, none⟩ = some (.bool false) := (blk_cell BK137.out 1).trans rfl
              have hfs31 := blk_frozen BK137.out 1
              have hs32 : w29.cell? ⟨gb137, 2, none⟩ = some (.bool false) := (blk_cell BK137.out 2).trans rfl
              have hfs32 := blk_frozen BK137.out 2
              have hs33 : w29.cell? ⟨gb137, 3, none⟩ = some (.bool false) := (blk_cell BK137.out 3).trans rfl
              have hfs33 := blk_frozen BK137.out 3
              have hs34 : w29.cell? ⟨gb137, 4, none⟩ = some (.bool false) := (blk_cell BK137.out 4).trans rfl
              have hfs34 := blk_frozen BK137.out 4
              have hs35 : w29.cell? ⟨gb137, 5, none⟩ = some (.bool false) := (blk_cell BK137.out 5).trans rfl
              have hfs35 := blk_frozen BK137.out 5
              have hs36 : w29.cell? ⟨gb137, 6, none⟩ = some (.bool false) := (blk_cell BK137.out 6).trans rfl
              have hfs36 := blk_frozen BK137.out 6
              have hs37 : w29.cell? ⟨gb137, 7, none⟩ = some (.int .i64 0) := (blk_cell BK137.out 7).trans rfl
              have hfs37 := blk_frozen BK137.out 7
              have hs38 : w29.cell? ⟨gb137, 8, none⟩ = some (.int .u64 0) := (blk_cell BK137.out 8).trans rfl
              have hfs38 := blk_frozen BK137.out 8
              have hs39 : w29.cell? ⟨gb137, 9, none⟩ = some (.int .i64 0) := (blk_cell BK137.out 9).trans rfl
              have hfs39 := blk_frozen BK137.out 9
              have hs40 : w29.cell? ⟨gb137, 10, none⟩ = some (.int .u64 0) := (blk_cell BK137.out 10).trans rfl
              have hfs40 := blk_frozen BK137.out 10
              have hs41 : w29.cell? ⟨gb137, 11, none⟩ = some (.int .i64 0) := (blk_cell BK137.out 11).trans rfl
              have hfs41 := blk_frozen BK137.out 11
              have hs42 : w29.cell? ⟨gb137, 12, none⟩ = some (.int .i64 0) := (blk_cell BK137.out 12).trans rfl
              have hfs42 := blk_frozen BK137.out 12
              have hs43 : w29.cell? ⟨gb137, 13, none⟩ = some (.int .i64 0) := (blk_cell BK137.out 13).trans rfl
              have hfs43 := blk_frozen BK137.out 13
              have hs44 : w29.cell? ⟨gb137, 14, none⟩ = some (.int .i64 0) := (blk_cell BK137.out 14).trans rfl
              have hfs44 := blk_frozen BK137.out 14
              have hs45 : w29.cell? ⟨gb137, 15, none⟩ = some (.int .i64 0) := (blk_cell BK137.out 15).trans rfl
              have hfs45 := blk_frozen BK137.out 15
              refine skip_ (w1 := ?_) qa rfl ?_ ?_
              rotate_left
              ·go_simp
               rfl
              refine hK.out _ _ trivial (fun hHeld => ?_)
              clear hK K
              refine pure_ (i := 6) (N := some 3) (v := ?_) (a' := ?_) #[true, true, true, true, true, true, true] rfl rfl qf (fun _ _ _ h => h) (Or.inl ⟨by rfl, ?_⟩) ?_ ?_
              rotate_left
              ·intro w'
               go_simp
               with_reducible rfl
              rotate_left
              ·exact z12_1
              refine done_ qf ?_
              try go_wp2_with (first | ((with_reducible refine gate_st (ty := 24) rfl ?_); refine storeC16 rfl rfl rfl rfl rfl qbw qo qf rfl ?_) | ((with_reducible refine gate_ld (ty := 24) rfl ?_); (try (with_reducible refine gate_gd rfl ?_; refine gate_guard qc8 ?_; dsimp only)); refine load_st rfl rfl rfl qbw qo Tryd.underlying24 rfl qf ?_; (try simp only [Act.put, List.setIfInBounds_toArray, List.set_cons_zero, List.set_cons_succ])) | go_in)
              refine bodyPost_ret (results_ct rfl _ _ gb137 24 #[.int .i64 t155, .bool t156, .bool t157, .bool t158, .bool t159, .bool t160, .bool t161, .int .i64 t162, .int .u64 t163, .int .i64 t164, .int .u64 t165, .int .i64 t166, .int .i64 t167, .int .i64 t168, .int .i64 t169, .int .i64 t170] (0, 0) _ rfl qdb Tryd.underlying24 rfl qf) rfl ?_
              exact ⟨by first | rfl | (simp [errW_none, errW_some] <;> rfl) | (simp [*, errW_none, errW_some] <;> rfl) | (simp [*, IntKind.wrap_u32]; done) | (simp_all [IntKind.wrap_u32]; done), by repeat (first | (with_reducible first | exact HB.out | apply below_alloc | apply pw_below_drewN | apply below_drew1 | refine below_set ?_ GE137.out) | exact HB.out)⟩
             ·rw [if_neg c24] at H
              exact absurd H qb
            ·rw [if_neg c22] at H
             have c22b0 : ((a0.extract 5 7).toList == ([2, 2] : List UInt8)) = false := beq_eq_false_iff_ne.mpr c22
             have c22b1 : ((a0.extract 5 7).toList != ([2, 2] : List UInt8)) = true := bne_iff_ne.mpr c22
             replace H := Option.bind_eq_some_iff.mp H
             obtain ⟨⟨t171, t172, t173, t174, t175, t176, t177, t178, t179, t180, t181, t182, t183, t184, t185, t186⟩, A460, H⟩ := H
             try dsimp only at H
             have A46 := Aside0.mk A460
             clear A460
             simp only [Option.some.injEq, Prod.mk.injEq] at H
             obtain ⟨rfl, rfl, rfl, rfl, rfl, rfl, rfl, rfl, rfl, rfl, rfl, rfl, rfl, rfl, rfl, rfl, rfl⟩ := H
             go_wp2_with (first | ((with_reducible refine gate_st (ty := 24) rfl ?_); refine storeC16 rfl rfl rfl rfl rfl qbw qo qf rfl ?_) | ((with_reducible refine gate_ld (ty := 24) rfl ?_); (try (with_reducible refine gate_gd rfl ?_; refine gate_guard qc8 ?_; dsimp only)); refine load_st rfl rfl rfl qbw qo Tryd.underlying24 rfl qf ?_; (try simp only [Act.put, List.setIfInBounds_toArray, List.set_cons_zero, List.set_cons_succ])) | ((with_reducible refine gate_callee (f := 28) rfl ?_); refine goesL_ (some 52) rfl rfl Tryd.func28 qf rfl #[.string a0] rfl qbi ?_; (with_reducible refine (bpdu_told.calls kj16 a0 t171 t172 t173 t174 t175 t176 t177 t178 t179 t180 t181 t182 t183 t184 t185 t186 _ A46.out).mono ?_); rintro e w47 ⟨rfl, hb⟩; refine ⟨_, rfl, ?_⟩; have n0_ := Aside0.mk (blk_below (g := gb137) q5 hb); have n1_ := Aside0.mk (below_step qbq hb); clear BK137; clear HB; have BK137 := n0_; have HB := n1_; clear n0_ n1_; (try clear hb); (try clear hb2); (try clear hk); (try clear hi); obtain ⟨hcz48_0, hcz48_1, hcz48_2, hcz48_3, hcz48_4, hcz48_5, hcz48_6, hcz48_7, hcz48_8, hcz48_9, hcz48_10, hcz48_11, hcz48_12, hcz48_13, hcz48_14, hcz48_15⟩ := cells16 BK137.out; obtain ⟨hfz48_0, hfz48_1, hfz48_2, hfz48_3, hfz48_4, hfz48_5, hfz48_6, hfz48_7, hfz48_8, hfz48_9, hfz48_10, hfz48_11, hfz48_12, hfz48_13, hfz48_14, hfz48_15⟩ := frozen16 BK137.out))
             refine bodyPost_ret (results_ct rfl _ _ gb137 24 #[.int .i64 t171, .bool t172, .bool t173, .bool t174, .bool t175, .bool t176, .bool t177, .int .i64 t178, .int .u64 t179, .int .i64 t180, .int .u64 t181, .int .i64 t182, .int .i64 t183, .int .i64 t184, .int .i64 t185, .int .i64 t186] (0, 0) _ rfl qdb Tryd.underlying24 rfl qf) rfl ?_
             exact ⟨by first | rfl | (simp [errW_none, errW_some] <;> rfl) | (simp [*, errW_none, errW_some] <;> rfl) | (simp [*, IntKind.wrap_u32]; done) | (simp_all [IntKind.wrap_u32]; done), by repeat (first | (with_reducible first | exact HB.out | apply below_alloc | apply pw_below_drewN | apply below_drew1 | refine below_set ?_ GE137.out) | exact HB.out)⟩
    ·rw [if_neg c8] at H
     exact absurd H qb
   ·rw [if_neg c7] at H
    exact absurd H qb
  ·replace c6 := Bool.eq_false_iff.mpr c6
   subst c6
   rw [if_neg (show ¬ (false = true) by decide)] at H
   simp only [Option.some.injEq, Prod.mk.injEq] at H
   obtain ⟨rfl, rfl, rfl, rfl, rfl, rfl, rfl, rfl, rfl, rfl, rfl, rfl, rfl, rfl, rfl, rfl, rfl⟩ := H
   go_enter Tryd.func13, Tryd.ntmps13
   go_wp2_with (first | ((with_reducible refine gate_st (ty := 24) rfl ?_); refine storeC16 rfl rfl rfl rfl rfl qbw qo qf rfl ?_) | ((with_reducible refine gate_ld (ty := 24) rfl ?_); (try (with_reducible refine gate_gd rfl ?_; refine gate_guard qc8 ?_; dsimp only)); refine load_st rfl rfl rfl qbw qo Tryd.underlying24 rfl qf ?_; (try simp only [Act.put, List.setIfInBounds_toArray, List.set_cons_zero, List.set_cons_succ])) | ((with_reducible refine gate_dst (N := 2) rfl ?_); (try (refine gate_guard qa ?_; dsimp only)); refine box_event ?hg (N := 2) ?hd (cs := #[.int .i64 0, .bool false, .bool false, .bool false, .bool false, .bool false, .bool false, .int .i64 0, .int .u64 0, .int .i64 0, .int .u64 0, .int .i64 0, .int .i64 0, .int .i64 0, .int .i64 0, .int .i64 0]) (t := 24) ?hr ?_; (case hd => rfl); (case hg => rfl); (case hr => first | (go_simp; done) | (go_simp; rfl)); intro gb137 hg w49 hbox hb; have n0_ := Aside0.mk (below_step qbh hb); have n1_ := Aside0.mk (hbox); have n2_ := Aside0.mk ((qcq : w.heap.size ≤ gb137)); have n3_ := Aside0.mk ((qcq : w.heap.size ≤ gb137)); clear HB; have HB := n0_; have BK137 := n1_; have GW137 := n2_; have GE137 := n3_; clear n0_ n1_ n2_ n3_; clear hb hbox hg) | ((with_reducible refine gate_callee (f := 26) rfl ?_); refine goesL_ (some 12) rfl rfl Tryd.func26 qf rfl #[.string a0, .string (⟨#[66, 66, 3, 0, 0]⟩ : ByteArray)] rfl qbi ?_; (with_reducible refine (strings_HasPrefix.calls a0 (⟨#[66, 66, 3, 0, 0]⟩ : ByteArray) false _ A5.out).mono ?_); rintro e w' ⟨rfl, ⟨nd, rfl⟩⟩; refine ⟨_, rfl, ?_⟩; (try (rw [drewN_self w49]; generalize hq_ : World.drewN w49 _ = w49; have n0_ : Aside0 (w49.heap[gb137]? = some (.cells #[.int .i64 0, .bool false, .bool false, .bool false, .bool false, .bool false, .bool false, .int .i64 0, .int .u64 0, .int .i64 0, .int .u64 0, .int .i64 0, .int .i64 0, .int .i64 0, .int .i64 0, .int .i64 0] 24 (0, 0))) := ⟨by rw [← hq_]; exact q5⟩; have n1_ : Aside0 (Below w.heap.size w w49) := ⟨by rw [← hq_]; exact qbq⟩; clear BK137 HB hq_; have BK137 := n0_; have HB := n1_; clear n0_ n1_)); obtain ⟨hcz50_0, hcz50_1, hcz50_2, hcz50_3, hcz50_4, hcz50_5, hcz50_6, hcz50_7, hcz50_8, hcz50_9, hcz50_10, hcz50_11, hcz50_12, hcz50_13, hcz50_14, hcz50_15⟩ := cells16 BK137.out; obtain ⟨hfz50_0, hfz50_1, hfz50_2, hfz50_3, hfz50_4, hfz50_5, hfz50_6, hfz50_7, hfz50_8, hfz50_9, hfz50_10, hfz50_11, hfz50_12, hfz50_13, hfz50_14, hfz50_15⟩ := frozen16 BK137.out))
   refine bodyPost_ret (results_ct rfl _ _ gb137 24 #[.int .i64 0, .bool false, .bool false, .bool false, .bool false, .bool false, .bool false, .int .i64 0, .int .u64 0, .int .i64 0, .int .u64 0, .int .i64 0, .int .i64 0, .int .i64 0, .int .i64 0, .int .i64 0] (0, 0) _ rfl qdb Tryd.underlying24 rfl qf) rfl ?_
   exact ⟨by first | rfl | (simp [errW_none, errW_some] <;> rfl) | (simp [*, errW_none, errW_some] <;> rfl) | (simp [*, IntKind.wrap_u32]; done) | (simp_all [IntKind.wrap_u32]; done), by repeat (first | (with_reducible first | exact HB.out | apply below_alloc | apply pw_below_drewN | apply below_drew1 | refine below_set ?_ GE137.out) | exact HB.out)⟩
end Go.Proofs.YtbfjlhjfpmgplaaDoor.P
