-- squeezed
-- Written by wip/hprint.py (this session's program) through the kit's print program; hand contracts are marked 'by hand'.
import Derived.Test.YtbfjlhjfpmgplaaDoorRow
import Derived.Test.YtbfjlhjfpmgplaaDoorPx0
import Derived.Test.YtbfjlhjfpmgplaaDoorPx1
import Derived.Test.YtbfjlhjfpmgplaaDoorPx3
namespace Go.Proofs.YtbfjlhjfpmgplaaDoor.P
open Go.RowKit Go.Proofs.YtbfjlhjfpmgplaaDoorW.PrintWords Go.Proofs.YtbfjlhjfpmgplaaDoorW.PrintLast Go.Proofs.YtbfjlhjfpmgplaaDoorW.PrintMore
attribute [local go_sem] max2_int min2_int max_two min_two max_three min_three max_four min_four   -- for this text's walks alone
set_option linter.unusedVariables false
set_option linter.unusedSimpArgs false

attribute [local go_sem high] eqA24
/-! ### bpdu_Check: function 11 -/
mutual
def bpdu_Check.j0 : Nat → Bool → Int → Bool → Bool → Bool → Bool → Bool → Bool → Int → Int → Int → Int → Int → Int → Int → Int → Int → Option (Int)
 | 0, _, _, _, _, _, _, _, _, _, _, _, _, _, _, _, _, _ => none
 | k + 1, x3, x102000, x102001, x102002, x102003, x102004, x102005, x102006, x102007, x102008, x102009, x102010, x102011, x102012, x102013, x102014, x102015 => if x3 = true then ((bpdu_below.f x102007 4).bind fun t106 => (if t106 = true then ((bpdu_below.f x102009 4294967296).bind fun t107 => (if t107 = true then ((bpdu_below.f x102011 65536).bind fun t108 => (bpdu_Check.j1 k t108 x102000 x102001 x102002 x102003 x102004 x102005 x102006 x102007 x102008 x102009 x102010 x102011 x102012 x102013 x102014 x102015)) else (bpdu_Check.j1 k false x102000 x102001 x102002 x102003 x102004 x102005 x102006 x102007 x102008 x102009 x102010 x102011 x102012 x102013 x102014 x102015))) else (bpdu_Check.j1 k false x102000 x102001 x102002 x102003 x102004 x102005 x102006 x102007 x102008 x102009 x102010 x102011 x102012 x102013 x102014 x102015))) else (bpdu_Check.j1 k false x102000 x102001 x102002 x102003 x102004 x102005 x102006 x102007 x102008 x102009 x102010 x102011 x102012 x102013 x102014 x102015)
def bpdu_Check.j1 : Nat → Bool → Int → Bool → Bool → Bool → Bool → Bool → Bool → Int → Int → Int → Int → Int → Int → Int → Int → Int → Option (Int)
 | 0, _, _, _, _, _, _, _, _, _, _, _, _, _, _, _, _, _ => none
 | k + 1, x4, x102000, x102001, x102002, x102003, x102004, x102005, x102006, x102007, x102008, x102009, x102010, x102011, x102012, x102013, x102014, x102015 => if x102000 = 128 then (if ((x102000 == 128 && (!x102001 && (!x102002 && (!x102003 && (!x102004 && (!x102005 && (!x102006 && (x102007 == 0 && (x102008 == 0 && (x102009 == 0 && (x102010 == 0 && (x102011 == 0 && (x102012 == 0 && (x102013 == 0 && (x102014 == 0 && (x102015 == 0)))))))))))))))) = true) then (some 0) else (some 91)) else (if x102000 = 0 then (if x4 = true then (if x102002 = true then (some 91) else (if x102003 = true then (some 91) else (if x102004 = true then (some 91) else (if x102005 = true then (some 91) else (if x102007 = 0 then (some 0) else (some 91)))))) else (some 91)) else (if x102000 = 2 then (if x4 = true then (some 0) else (some 91)) else (some 91)))
end
def bpdu_Check.f (k : Nat) (a0_0 : Int) (a0_1 : Bool) (a0_2 : Bool) (a0_3 : Bool) (a0_4 : Bool) (a0_5 : Bool) (a0_6 : Bool) (a0_7 : Int) (a0_8 : Int) (a0_9 : Int) (a0_10 : Int) (a0_11 : Int) (a0_12 : Int) (a0_13 : Int) (a0_14 : Int) (a0_15 : Int) : Option (Int) := (bpdu_below.f a0_12 65536).bind fun t102 => (if t102 = true then ((bpdu_below.f a0_13 65536).bind fun t103 => (if t103 = true then ((bpdu_below.f a0_14 65536).bind fun t104 => (if t104 = true then ((bpdu_below.f a0_15 65536).bind fun t105 => (bpdu_Check.j0 k t105 a0_0 a0_1 a0_2 a0_3 a0_4 a0_5 a0_6 a0_7 a0_8 a0_9 a0_10 a0_11 a0_12 a0_13 a0_14 a0_15)) else (bpdu_Check.j0 k false a0_0 a0_1 a0_2 a0_3 a0_4 a0_5 a0_6 a0_7 a0_8 a0_9 a0_10 a0_11 a0_12 a0_13 a0_14 a0_15))) else (bpdu_Check.j0 k false a0_0 a0_1 a0_2 a0_3 a0_4 a0_5 a0_6 a0_7 a0_8 a0_9 a0_10 a0_11 a0_12 a0_13 a0_14 a0_15))) else (bpdu_Check.j0 k false a0_0 a0_1 a0_2 a0_3 a0_4 a0_5 a0_6 a0_7 a0_8 a0_9 a0_10 a0_11 a0_12 a0_13 a0_14 a0_15))
theorem bpdu_Check.mono_l : ∀ k, (∀ y0 y1 y2 y3 y4 y5 y6 y7 y8 y9 y10 y11 y12 y13 y14 y15 y16, LeO (bpdu_Check.j0 k y0 y1 y2 y3 y4 y5 y6 y7 y8 y9 y10 y11 y12 y13 y14 y15 y16) (bpdu_Check.j0 (k + 1) y0 y1 y2 y3 y4 y5 y6 y7 y8 y9 y10 y11 y12 y13 y14 y15 y16)) ∧ (∀ y0 y1 y2 y3 y4 y5 y6 y7 y8 y9 y10 y11 y12 y13 y14 y15 y16, LeO (bpdu_Check.j1 k y0 y1 y2 y3 y4 y5 y6 y7 y8 y9 y10 y11 y12 y13 y14 y15 y16) (bpdu_Check.j1 (k + 1) y0 y1 y2 y3 y4 y5 y6 y7 y8 y9 y10 y11 y12 y13 y14 y15 y16))
 | 0 => ⟨fun _ _ _ _ _ _ _ _ _ _ _ _ _ _ _ _ _ r h => by simp [bpdu_Check.j0] at h, fun _ _ _ _ _ _ _ _ _ _ _ _ _ _ _ _ _ r h => by simp [bpdu_Check.j1] at h⟩
 | k + 1 => by
  obtain ⟨ih0, ih1⟩ := bpdu_Check.mono_l k
  refine ⟨?_, ?_⟩
  ·intro y0 y1 y2 y3 y4 y5 y6 y7 y8 y9 y10 y11 y12 y13 y14 y15 y16
   unfold bpdu_Check.j0
   repeat' first
   | (with_reducible exact ih0 _ _ _ _ _ _ _ _ _ _ _ _ _ _ _ _ _)
   | (with_reducible exact ih1 _ _ _ _ _ _ _ _ _ _ _ _ _ _ _ _ _)
   | (with_reducible exact LeO.refl _)
   | (with_reducible exact LeO.none _)
   | (with_reducible refine LeO.ite ?_ ?_)
   | (with_reducible refine LeO.bind ?_ (fun _ => ?_))
   | exact ih0 _ _ _ _ _ _ _ _ _ _ _ _ _ _ _ _ _
   | exact ih1 _ _ _ _ _ _ _ _ _ _ _ _ _ _ _ _ _
   | exact LeO.none _
   | refine LeO.ite ?_ ?_
   | refine LeO.bind ?_ (fun _ => ?_)
  ·intro y0 y1 y2 y3 y4 y5 y6 y7 y8 y9 y10 y11 y12 y13 y14 y15 y16
   unfold bpdu_Check.j1
   repeat' first
   | (with_reducible exact ih0 _ _ _ _ _ _ _ _ _ _ _ _ _ _ _ _ _)
   | (with_reducible exact ih1 _ _ _ _ _ _ _ _ _ _ _ _ _ _ _ _ _)
   | (with_reducible exact LeO.refl _)
   | (with_reducible exact LeO.none _)
   | (with_reducible refine LeO.ite ?_ ?_)
   | (with_reducible refine LeO.bind ?_ (fun _ => ?_))
   | exact ih0 _ _ _ _ _ _ _ _ _ _ _ _ _ _ _ _ _
   | exact ih1 _ _ _ _ _ _ _ _ _ _ _ _ _ _ _ _ _
   | exact LeO.none _
   | refine LeO.ite ?_ ?_
   | refine LeO.bind ?_ (fun _ => ?_)
theorem bpdu_Check.mono : ∀ a0 a1 a2 a3 a4 a5 a6 a7 a8 a9 a10 a11 a12 a13 a14 a15 k, LeO (bpdu_Check.f k a0 a1 a2 a3 a4 a5 a6 a7 a8 a9 a10 a11 a12 a13 a14 a15) (bpdu_Check.f (k + 1) a0 a1 a2 a3 a4 a5 a6 a7 a8 a9 a10 a11 a12 a13 a14 a15) := by
 intro a0 a1 a2 a3 a4 a5 a6 a7 a8 a9 a10 a11 a12 a13 a14 a15 k
 obtain ⟨ih0, ih1⟩ := bpdu_Check.mono_l k
 unfold bpdu_Check.f
 repeat' first
   | (with_reducible exact ih0 _ _ _ _ _ _ _ _ _ _ _ _ _ _ _ _ _)
   | (with_reducible exact ih1 _ _ _ _ _ _ _ _ _ _ _ _ _ _ _ _ _)
   | (with_reducible exact LeO.refl _)
   | (with_reducible exact LeO.none _)
   | (with_reducible refine LeO.ite ?_ ?_)
   | (with_reducible refine LeO.bind ?_ (fun _ => ?_))
   | exact ih0 _ _ _ _ _ _ _ _ _ _ _ _ _ _ _ _ _
   | exact ih1 _ _ _ _ _ _ _ _ _ _ _ _ _ _ _ _ _
   | exact LeO.none _
   | refine LeO.ite ?_ ?_
   | refine LeO.bind ?_ (fun _ => ?_)
set_option maxHeartbeats 8000000 in
set_option maxRecDepth 100000 in
theorem bpdu_Check.calls (k : Nat) (a0_0 : Int) (a0_1 : Bool) (a0_2 : Bool) (a0_3 : Bool) (a0_4 : Bool) (a0_5 : Bool) (a0_6 : Bool) (a0_7 : Int) (a0_8 : Int) (a0_9 : Int) (a0_10 : Int) (a0_11 : Int) (a0_12 : Int) (a0_13 : Int) (a0_14 : Int) (a0_15 : Int) (r : Int) (w : World) (h : bpdu_Check.f k a0_0 a0_1 a0_2 a0_3 a0_4 a0_5 a0_6 a0_7 a0_8 a0_9 a0_10 a0_11 a0_12 a0_13 a0_14 a0_15 = some r) :
  Calls Tryd.prog 11 #[.agg #[.int .i64 a0_0, .bool a0_1, .bool a0_2, .bool a0_3, .bool a0_4, .bool a0_5, .bool a0_6, .int .i64 a0_7, .int .u64 a0_8, .int .i64 a0_9, .int .u64 a0_10, .int .i64 a0_11, .int .i64 a0_12, .int .i64 a0_13, .int .i64 a0_14, .int .i64 a0_15]] w fun e w' => e = .returned (.int .i64 r) ∧ Below w.heap.size w w' := by
 have hu24 := Tryd.underlying24
 have HB := Aside0.mk (Below.refl w.heap.size w)
 have H : ((bpdu_below.f a0_12 65536).bind fun t102 => (if t102 = true then ((bpdu_below.f a0_13 65536).bind fun t103 => (if t103 = true then ((bpdu_below.f a0_14 65536).bind fun t104 => (if t104 = true then ((bpdu_below.f a0_15 65536).bind fun t105 => (bpdu_Check.j0 k t105 a0_0 a0_1 a0_2 a0_3 a0_4 a0_5 a0_6 a0_7 a0_8 a0_9 a0_10 a0_11 a0_12 a0_13 a0_14 a0_15)) else (bpdu_Check.j0 k false a0_0 a0_1 a0_2 a0_3 a0_4 a0_5 a0_6 a0_7 a0_8 a0_9 a0_10 a0_11 a0_12 a0_13 a0_14 a0_15))) else (bpdu_Check.j0 k false a0_0 a0_1 a0_2 a0_3 a0_4 a0_5 a0_6 a0_7 a0_8 a0_9 a0_10 a0_11 a0_12 a0_13 a0_14 a0_15))) else (bpdu_Check.j0 k false a0_0 a0_1 a0_2 a0_3 a0_4 a0_5 a0_6 a0_7 a0_8 a0_9 a0_10 a0_11 a0_12 a0_13 a0_14 a0_15))) = some r := h
 clear h
 have HC2 := Aside0.mk H
 clear H
 go_enter Tryd.func11, Tryd.ntmps11
 go_upto_region 1 with (first | ((with_reducible refine gate_st (ty := 24) rfl ?_); (try (refine gate_guard (by rfl) ?_; dsimp only)); refine store16 rfl rfl rfl rfl rfl (by repeat (first | (with_reducible refine blk_drewN ?_ _) | (with_reducible refine blk_drew ?_) | (with_reducible refine blk_alloc ?_ _) | (with_reducible refine blk_far ?_ (by assumption) _) | (first | with_reducible exact BK101.out))) (by kernel_rfl) rfl ?_) | ((with_reducible refine gate_ld (ty := 24) rfl ?_); (try (refine gate_guard (by rfl) ?_; dsimp only)); refine wpList_load_row rfl _ _ rfl _ rfl _ _ _ _ (by repeat (first | ((with_reducible refine gate_row16 ?_); with_reducible exact put16_0_16 (by repeat (first | (with_reducible refine blk_drewN ?_ _) | (with_reducible refine blk_drew ?_) | (with_reducible refine blk_alloc ?_ _) | (first | with_reducible exact BK101.out)))) | (with_reducible refine blk_far ?_ (by assumption) _) | (with_reducible refine blk_set ?_ _ _) | (with_reducible refine blk_drewN ?_ _) | (with_reducible refine blk_drew ?_) | (with_reducible refine blk_alloc ?_ _) | (first | with_reducible exact BK101.out))) Tryd.underlying24 rfl (by kernel_rfl) ?_; (try simp only [List.setIfInBounds_toArray, List.set_cons_zero, List.set_cons_succ])) | ((with_reducible refine gate_eql (ty := 24) rfl ?_); (try (refine gate_guard (by rfl) ?_; dsimp only)); refine eql24 rfl rfl rfl rfl true (by first | exact c26b0 | (simpa using c26b0)) ?_) | ((with_reducible refine gate_eql (ty := 24) rfl ?_); (try (refine gate_guard (by rfl) ?_; dsimp only)); refine eql24 rfl rfl rfl rfl false (by first | exact c26b0 | (simpa using c26b0)) ?_) | ((with_reducible refine gate_dst (N := 1) rfl ?_); refine box_event ?hg (N := 1) ?hd (cs := #[.int .i64 a0_0, .bool a0_1, .bool a0_2, .bool a0_3, .bool a0_4, .bool a0_5, .bool a0_6, .int .i64 a0_7, .int .u64 a0_8, .int .i64 a0_9, .int .u64 a0_10, .int .i64 a0_11, .int .i64 a0_12, .int .i64 a0_13, .int .i64 a0_14, .int .i64 a0_15]) (t := 24) ?hr ?_; (case hd => rfl); (case hg => rfl); (case hr => first | (go_simp; done) | (go_simp; rfl)); intro gb101 hg w3 hbox hb; have n0_ := Aside0.mk (below_step (by repeat (first | (with_reducible first | exact HB.out | apply below_alloc | apply pw_below_drewN | apply below_drew1) | exact HB.out)) hb); have n1_ := Aside0.mk (hbox); have n2_ := Aside0.mk ((by rw [hg]; exact (below_size (by repeat (first | (with_reducible first | exact HB.out | apply below_alloc | apply pw_below_drewN | apply below_drew1) | exact HB.out))) : w.heap.size ≤ gb101)); have n3_ := Aside0.mk ((by rw [hg]; exact (below_size (by repeat (first | (with_reducible first | exact HB.out | apply below_alloc | apply pw_below_drewN | apply below_drew1) | exact HB.out))) : w.heap.size ≤ gb101)); clear HB; have HB := n0_; have BK101 := n1_; have GW101 := n2_; have GE101 := n3_; clear n0_ n1_ n2_ n3_; clear hb hbox hg))
 (try simp only [Act.put, List.setIfInBounds_toArray, List.set_cons_zero, List.set_cons_succ])
 go_cut [3] (fun v3 wc => ∃ (kq : Nat) (x3_1 : Bool), v3 = .bool x3_1 ∧ Aside0 (bpdu_Check.j0 kq x3_1 a0_0 a0_1 a0_2 a0_3 a0_4 a0_5 a0_6 a0_7 a0_8 a0_9 a0_10 a0_11 a0_12 a0_13 a0_14 a0_15 = some r) ∧ Aside0 (kq ≤ k) ∧ Aside0 (wc.heap[gb101]? = some (.cells #[.int .i64 a0_0, .bool a0_1, .bool a0_2, .bool a0_3, .bool a0_4, .bool a0_5, .bool a0_6, .int .i64 a0_7, .int .u64 a0_8, .int .i64 a0_9, .int .u64 a0_10, .int .i64 a0_11, .int .i64 a0_12, .int .i64 a0_13, .int .i64 a0_14, .int .i64 a0_15] 24 (0, 0))) ∧ Aside0 (Below w.heap.size w wc))
 case first =>
  have H := HC2.out
  clear HC2
  replace H := Option.bind_eq_some_iff.mp H
  obtain ⟨t102, A40, H⟩ := H
  replace H : (if t102 = true then ((bpdu_below.f a0_13 65536).bind fun t103 => (if t103 = true then ((bpdu_below.f a0_14 65536).bind fun t104 => (if t104 = true then ((bpdu_below.f a0_15 65536).bind fun t105 => (bpdu_Check.j0 k t105 a0_0 a0_1 a0_2 a0_3 a0_4 a0_5 a0_6 a0_7 a0_8 a0_9 a0_10 a0_11 a0_12 a0_13 a0_14 a0_15)) else (bpdu_Check.j0 k false a0_0 a0_1 a0_2 a0_3 a0_4 a0_5 a0_6 a0_7 a0_8 a0_9 a0_10 a0_11 a0_12 a0_13 a0_14 a0_15))) else (bpdu_Check.j0 k false a0_0 a0_1 a0_2 a0_3 a0_4 a0_5 a0_6 a0_7 a0_8 a0_9 a0_10 a0_11 a0_12 a0_13 a0_14 a0_15))) else (bpdu_Check.j0 k false a0_0 a0_1 a0_2 a0_3 a0_4 a0_5 a0_6 a0_7 a0_8 a0_9 a0_10 a0_11 a0_12 a0_13 a0_14 a0_15)) = some r := H
  have A4 := Aside0.mk A40
  clear A40
  by_cases c5 : t102 = true
  ·subst c5
   have H1 : ((bpdu_below.f a0_13 65536).bind fun t103 => (if t103 = true then ((bpdu_below.f a0_14 65536).bind fun t104 => (if t104 = true then ((bpdu_below.f a0_15 65536).bind fun t105 => (bpdu_Check.j0 k t105 a0_0 a0_1 a0_2 a0_3 a0_4 a0_5 a0_6 a0_7 a0_8 a0_9 a0_10 a0_11 a0_12 a0_13 a0_14 a0_15)) else (bpdu_Check.j0 k false a0_0 a0_1 a0_2 a0_3 a0_4 a0_5 a0_6 a0_7 a0_8 a0_9 a0_10 a0_11 a0_12 a0_13 a0_14 a0_15))) else (bpdu_Check.j0 k false a0_0 a0_1 a0_2 a0_3 a0_4 a0_5 a0_6 a0_7 a0_8 a0_9 a0_10 a0_11 a0_12 a0_13 a0_14 a0_15))) = some r := by rw [if_pos rfl] at H; exact H
   clear H
   have H := H1
   clear H1
   replace H := Option.bind_eq_some_iff.mp H
   obtain ⟨t103, A60, H⟩ := H
   replace H : (if t103 = true then ((bpdu_below.f a0_14 65536).bind fun t104 => (if t104 = true then ((bpdu_below.f a0_15 65536).bind fun t105 => (bpdu_Check.j0 k t105 a0_0 a0_1 a0_2 a0_3 a0_4 a0_5 a0_6 a0_7 a0_8 a0_9 a0_10 a0_11 a0_12 a0_13 a0_14 a0_15)) else (bpdu_Check.j0 k false a0_0 a0_1 a0_2 a0_3 a0_4 a0_5 a0_6 a0_7 a0_8 a0_9 a0_10 a0_11 a0_12 a0_13 a0_14 a0_15))) else (bpdu_Check.j0 k false a0_0 a0_1 a0_2 a0_3 a0_4 a0_5 a0_6 a0_7 a0_8 a0_9 a0_10 a0_11 a0_12 a0_13 a0_14 a0_15)) = some r := H
   have A6 := Aside0.mk A60
   clear A60
   by_cases c7 : t103 = true
   ·subst c7
    have H1 : ((bpdu_below.f a0_14 65536).bind fun t104 => (if t104 = true then ((bpdu_below.f a0_15 65536).bind fun t105 => (bpdu_Check.j0 k t105 a0_0 a0_1 a0_2 a0_3 a0_4 a0_5 a0_6 a0_7 a0_8 a0_9 a0_10 a0_11 a0_12 a0_13 a0_14 a0_15)) else (bpdu_Check.j0 k false a0_0 a0_1 a0_2 a0_3 a0_4 a0_5 a0_6 a0_7 a0_8 a0_9 a0_10 a0_11 a0_12 a0_13 a0_14 a0_15))) = some r := by rw [if_pos rfl] at H; exact H
    clear H
    have H := H1
    clear H1
    replace H := Option.bind_eq_some_iff.mp H
    obtain ⟨t104, A80, H⟩ := H
    replace H : (if t104 = true then ((bpdu_below.f a0_15 65536).bind fun t105 => (bpdu_Check.j0 k t105 a0_0 a0_1 a0_2 a0_3 a0_4 a0_5 a0_6 a0_7 a0_8 a0_9 a0_10 a0_11 a0_12 a0_13 a0_14 a0_15)) else (bpdu_Check.j0 k false a0_0 a0_1 a0_2 a0_3 a0_4 a0_5 a0_6 a0_7 a0_8 a0_9 a0_10 a0_11 a0_12 a0_13 a0_14 a0_15)) = some r := H
    have A8 := Aside0.mk A80
    clear A80
    by_cases c9 : t104 = true
    ·subst c9
     have H1 : ((bpdu_below.f a0_15 65536).bind fun t105 => (bpdu_Check.j0 k t105 a0_0 a0_1 a0_2 a0_3 a0_4 a0_5 a0_6 a0_7 a0_8 a0_9 a0_10 a0_11 a0_12 a0_13 a0_14 a0_15)) = some r := by rw [if_pos rfl] at H; exact H
     clear H
     have H := H1
     clear H1
     replace H := Option.bind_eq_some_iff.mp H
     obtain ⟨t105, A100, H⟩ := H
     replace H : (bpdu_Check.j0 k t105 a0_0 a0_1 a0_2 a0_3 a0_4 a0_5 a0_6 a0_7 a0_8 a0_9 a0_10 a0_11 a0_12 a0_13 a0_14 a0_15) = some r := H
     have A10 := Aside0.mk A100
     clear A100
     have H' := Aside0.mk H
     clear H
     obtain ⟨hcz11_0, hcz11_1, hcz11_2, hcz11_3, hcz11_4, hcz11_5, hcz11_6, hcz11_7, hcz11_8, hcz11_9, hcz11_10, hcz11_11, hcz11_12, hcz11_13, hcz11_14, hcz11_15⟩ := cells16 BK101.out
     obtain ⟨hfz11_0, hfz11_1, hfz11_2, hfz11_3, hfz11_4, hfz11_5, hfz11_6, hfz11_7, hfz11_8, hfz11_9, hfz11_10, hfz11_11, hfz11_12, hfz11_13, hfz11_14, hfz11_15⟩ := frozen16 BK101.out
     go_wp2_with (first | ((with_reducible refine gate_st (ty := 24) rfl ?_); (try (refine gate_guard (by rfl) ?_; dsimp only)); refine store16 rfl rfl rfl rfl rfl (by repeat (first | (with_reducible refine blk_drewN ?_ _) | (with_reducible refine blk_drew ?_) | (with_reducible refine blk_alloc ?_ _) | (with_reducible refine blk_far ?_ (by assumption) _) | (first | with_reducible exact BK101.out))) (by kernel_rfl) rfl ?_) | ((with_reducible refine gate_ld (ty := 24) rfl ?_); (try (refine gate_guard (by rfl) ?_; dsimp only)); refine wpList_load_row rfl _ _ rfl _ rfl _ _ _ _ (by repeat (first | ((with_reducible refine gate_row16 ?_); with_reducible exact put16_0_16 (by repeat (first | (with_reducible refine blk_drewN ?_ _) | (with_reducible refine blk_drew ?_) | (with_reducible refine blk_alloc ?_ _) | (first | with_reducible exact BK101.out)))) | (with_reducible refine blk_far ?_ (by assumption) _) | (with_reducible refine blk_set ?_ _ _) | (with_reducible refine blk_drewN ?_ _) | (with_reducible refine blk_drew ?_) | (with_reducible refine blk_alloc ?_ _) | (first | with_reducible exact BK101.out))) Tryd.underlying24 rfl (by kernel_rfl) ?_; (try simp only [List.setIfInBounds_toArray, List.set_cons_zero, List.set_cons_succ])) | ((with_reducible refine gate_eql (ty := 24) rfl ?_); (try (refine gate_guard (by rfl) ?_; dsimp only)); refine eql24 rfl rfl rfl rfl true (by first | exact c26b0 | (simpa using c26b0)) ?_) | ((with_reducible refine gate_eql (ty := 24) rfl ?_); (try (refine gate_guard (by rfl) ?_; dsimp only)); refine eql24 rfl rfl rfl rfl false (by first | exact c26b0 | (simpa using c26b0)) ?_) | ((with_reducible refine gate_callee (f := 24) rfl ?_); refine goesL_ (some 7) rfl rfl Tryd.func24 (by kernel_rfl) rfl #[.int .i64 a0_12, .int .i64 65536] rfl (by (try simp only [List.map_toArray, List.map_cons, List.map_nil]); first | done | rfl | (simp only [List.length_drop, List.length_take]; rfl)) ?_; (with_reducible refine (bpdu_below.calls a0_12 65536 true _ A4.out).mono ?_); rintro e w' ⟨rfl, ⟨nd, rfl⟩⟩; refine ⟨_, rfl, ?_⟩) | (go_at_call 24; (with_reducible refine (bpdu_below.calls a0_13 65536 true _ A6.out).mono ?_); rintro e w' ⟨rfl, ⟨nd, rfl⟩⟩) | (go_at_call 24; (with_reducible refine (bpdu_below.calls a0_14 65536 true _ A8.out).mono ?_); rintro e w' ⟨rfl, ⟨nd, rfl⟩⟩) | (go_at_call 24; (with_reducible refine (bpdu_below.calls a0_15 65536 t105 _ A10.out).mono ?_); rintro e w' ⟨rfl, ⟨nd, rfl⟩⟩))
     go_meet
     case rel => exact ⟨_, (t105), (by first | rfl | (simp; done) | (simp [*]; done)), H', ⟨by first | omega | exact Nat.le_refl _⟩, ⟨by (with_reducible repeat (first | refine blk_drewN ?_ _ | refine blk_drew ?_ | refine blk_alloc ?_ _)); exact BK101.out⟩, ⟨by repeat (first | (with_reducible first | exact HB.out | apply below_alloc | apply pw_below_drewN | apply below_drew1 | refine below_set ?_ GE101.out) | exact HB.out)⟩⟩
    ·replace c9 := Bool.eq_false_iff.mpr c9
     subst c9
     have H1 : (bpdu_Check.j0 k false a0_0 a0_1 a0_2 a0_3 a0_4 a0_5 a0_6 a0_7 a0_8 a0_9 a0_10 a0_11 a0_12 a0_13 a0_14 a0_15) = some r := by rw [if_neg (show ¬ (false = true) by decide)] at H; exact H
     clear H
     have H := H1
     clear H1
     have H' := Aside0.mk H
     clear H
     obtain ⟨hcz12_0, hcz12_1, hcz12_2, hcz12_3, hcz12_4, hcz12_5, hcz12_6, hcz12_7, hcz12_8, hcz12_9, hcz12_10, hcz12_11, hcz12_12, hcz12_13, hcz12_14, hcz12_15⟩ := cells16 BK101.out
     obtain ⟨hfz12_0, hfz12_1, hfz12_2, hfz12_3, hfz12_4, hfz12_5, hfz12_6, hfz12_7, hfz12_8, hfz12_9, hfz12_10, hfz12_11, hfz12_12, hfz12_13, hfz12_14, hfz12_15⟩ := frozen16 BK101.out
     go_wp2_with (first | ((with_reducible refine gate_st (ty := 24) rfl ?_); (try (refine gate_guard (by rfl) ?_; dsimp only)); refine store16 rfl rfl rfl rfl rfl (by repeat (first | (with_reducible refine blk_drewN ?_ _) | (with_reducible refine blk_drew ?_) | (with_reducible refine blk_alloc ?_ _) | (with_reducible refine blk_far ?_ (by assumption) _) | (first | with_reducible exact BK101.out))) (by kernel_rfl) rfl ?_) | ((with_reducible refine gate_ld (ty := 24) rfl ?_); (try (refine gate_guard (by rfl) ?_; dsimp only)); refine wpList_load_row rfl _ _ rfl _ rfl _ _ _ _ (by repeat (first | ((with_reducible refine gate_row16 ?_); with_reducible exact put16_0_16 (by repeat (first | (with_reducible refine blk_drewN ?_ _) | (with_reducible refine blk_drew ?_) | (with_reducible refine blk_alloc ?_ _) | (first | with_reducible exact BK101.out)))) | (with_reducible refine blk_far ?_ (by assumption) _) | (with_reducible refine blk_set ?_ _ _) | (with_reducible refine blk_drewN ?_ _) | (with_reducible refine blk_drew ?_) | (with_reducible refine blk_alloc ?_ _) | (first | with_reducible exact BK101.out))) Tryd.underlying24 rfl (by kernel_rfl) ?_; (try simp only [List.setIfInBounds_toArray, List.set_cons_zero, List.set_cons_succ])) | ((with_reducible refine gate_eql (ty := 24) rfl ?_); (try (refine gate_guard (by rfl) ?_; dsimp only)); refine eql24 rfl rfl rfl rfl true (by first | exact c26b0 | (simpa using c26b0)) ?_) | ((with_reducible refine gate_eql (ty := 24) rfl ?_); (try (refine gate_guard (by rfl) ?_; dsimp only)); refine eql24 rfl rfl rfl rfl false (by first | exact c26b0 | (simpa using c26b0)) ?_) | ((with_reducible refine gate_callee (f := 24) rfl ?_); refine goesL_ (some 7) rfl rfl Tryd.func24 (by kernel_rfl) rfl #[.int .i64 a0_12, .int .i64 65536] rfl (by (try simp only [List.map_toArray, List.map_cons, List.map_nil]); first | done | rfl | (simp only [List.length_drop, List.length_take]; rfl)) ?_; (with_reducible refine (bpdu_below.calls a0_12 65536 true _ A4.out).mono ?_); rintro e w' ⟨rfl, ⟨nd, rfl⟩⟩; refine ⟨_, rfl, ?_⟩) | (go_at_call 24; (with_reducible refine (bpdu_below.calls a0_13 65536 true _ A6.out).mono ?_); rintro e w' ⟨rfl, ⟨nd, rfl⟩⟩) | (go_at_call 24; (with_reducible refine (bpdu_below.calls a0_14 65536 false _ A8.out).mono ?_); rintro e w' ⟨rfl, ⟨nd, rfl⟩⟩))
     go_meet
     case rel => exact ⟨_, (false), (by first | rfl | (simp; done) | (simp [*]; done)), H', ⟨by first | omega | exact Nat.le_refl _⟩, ⟨by (with_reducible repeat (first | refine blk_drewN ?_ _ | refine blk_drew ?_ | refine blk_alloc ?_ _)); exact BK101.out⟩, ⟨by repeat (first | (with_reducible first | exact HB.out | apply below_alloc | apply pw_below_drewN | apply below_drew1 | refine below_set ?_ GE101.out) | exact HB.out)⟩⟩
   ·replace c7 := Bool.eq_false_iff.mpr c7
    subst c7
    have H1 : (bpdu_Check.j0 k false a0_0 a0_1 a0_2 a0_3 a0_4 a0_5 a0_6 a0_7 a0_8 a0_9 a0_10 a0_11 a0_12 a0_13 a0_14 a0_15) = some r := by rw [if_neg (show ¬ (false = true) by decide)] at H; exact H
    clear H
    have H := H1
    clear H1
    have H' := Aside0.mk H
    clear H
    obtain ⟨hcz13_0, hcz13_1, hcz13_2, hcz13_3, hcz13_4, hcz13_5, hcz13_6, hcz13_7, hcz13_8, hcz13_9, hcz13_10, hcz13_11, hcz13_12, hcz13_13, hcz13_14, hcz13_15⟩ := cells16 BK101.out
    obtain ⟨hfz13_0, hfz13_1, hfz13_2, hfz13_3, hfz13_4, hfz13_5, hfz13_6, hfz13_7, hfz13_8, hfz13_9, hfz13_10, hfz13_11, hfz13_12, hfz13_13, hfz13_14, hfz13_15⟩ := frozen16 BK101.out
    go_wp2_with (first | ((with_reducible refine gate_st (ty := 24) rfl ?_); (try (refine gate_guard (by rfl) ?_; dsimp only)); refine store16 rfl rfl rfl rfl rfl (by repeat (first | (with_reducible refine blk_drewN ?_ _) | (with_reducible refine blk_drew ?_) | (with_reducible refine blk_alloc ?_ _) | (with_reducible refine blk_far ?_ (by assumption) _) | (first | with_reducible exact BK101.out))) (by kernel_rfl) rfl ?_) | ((with_reducible refine gate_ld (ty := 24) rfl ?_); (try (refine gate_guard (by rfl) ?_; dsimp only)); refine wpList_load_row rfl _ _ rfl _ rfl _ _ _ _ (by repeat (first | ((with_reducible refine gate_row16 ?_); with_reducible exact put16_0_16 (by repeat (first | (with_reducible refine blk_drewN ?_ _) | (with_reducible refine blk_drew ?_) | (with_reducible refine blk_alloc ?_ _) | (first | with_reducible exact BK101.out)))) | (with_reducible refine blk_far ?_ (by assumption) _) | (with_reducible refine blk_set ?_ _ _) | (with_reducible refine blk_drewN ?_ _) | (with_reducible refine blk_drew ?_) | (with_reducible refine blk_alloc ?_ _) | (first | with_reducible exact BK101.out))) Tryd.underlying24 rfl (by kernel_rfl) ?_; (try simp only [List.setIfInBounds_toArray, List.set_cons_zero, List.set_cons_succ])) | ((with_reducible refine gate_eql (ty := 24) rfl ?_); (try (refine gate_guard (by rfl) ?_; dsimp only)); refine eql24 rfl rfl rfl rfl true (by first | exact c26b0 | (simpa using c26b0)) ?_) | ((with_reducible refine gate_eql (ty := 24) rfl ?_); (try (refine gate_guard (by rfl) ?_; dsimp only)); refine eql24 rfl rfl rfl rfl false (by first | exact c26b0 | (simpa using c26b0)) ?_) | ((with_reducible refine gate_callee (f := 24) rfl ?_); refine goesL_ (some 7) rfl rfl Tryd.func24 (by kernel_rfl) rfl #[.int .i64 a0_12, .int .i64 65536] rfl (by (try simp only [List.map_toArray, List.map_cons, List.map_nil]); first | done | rfl | (simp only [List.length_drop, List.length_take]; rfl)) ?_; (with_reducible refine (bpdu_below.calls a0_12 65536 true _ A4.out).mono ?_); rintro e w' ⟨rfl, ⟨nd, rfl⟩⟩; refine ⟨_, rfl, ?_⟩) | (go_at_call 24; (with_reducible refine (bpdu_below.calls a0_13 65536 false _ A6.out).mono ?_); rintro e w' ⟨rfl, ⟨nd, rfl⟩⟩))
    go_meet
    case rel => exact ⟨_, (false), (by first | rfl | (simp; done) | (simp [*]; done)), H', ⟨by first | omega | exact Nat.le_refl _⟩, ⟨by (with_reducible repeat (first | refine blk_drewN ?_ _ | refine blk_drew ?_ | refine blk_alloc ?_ _)); exact BK101.out⟩, ⟨by repeat (first | (with_reducible first | exact HB.out | apply below_alloc | apply pw_below_drewN | apply below_drew1 | refine below_set ?_ GE101.out) | exact HB.out)⟩⟩
  ·replace c5 := Bool.eq_false_iff.mpr c5
   subst c5
   have H1 : (bpdu_Check.j0 k false a0_0 a0_1 a0_2 a0_3 a0_4 a0_5 a0_6 a0_7 a0_8 a0_9 a0_10 a0_11 a0_12 a0_13 a0_14 a0_15) = some r := by rw [if_neg (show ¬ (false = true) by decide)] at H; exact H
   clear H
   have H := H1
   clear H1
   have H' := Aside0.mk H
   clear H
   obtain ⟨hcz14_0, hcz14_1, hcz14_2, hcz14_3, hcz14_4, hcz14_5, hcz14_6, hcz14_7, hcz14_8, hcz14_9, hcz14_10, hcz14_11, hcz14_12, hcz14_13, hcz14_14, hcz14_15⟩ := cells16 BK101.out
   obtain ⟨hfz14_0, hfz14_1, hfz14_2, hfz14_3, hfz14_4, hfz14_5, hfz14_6, hfz14_7, hfz14_8, hfz14_9, hfz14_10, hfz14_11, hfz14_12, hfz14_13, hfz14_14, hfz14_15⟩ := frozen16 BK101.out
   go_wp2_with (first | ((with_reducible refine gate_st (ty := 24) rfl ?_); (try (refine gate_guard (by rfl) ?_; dsimp only)); refine store16 rfl rfl rfl rfl rfl (by repeat (first | (with_reducible refine blk_drewN ?_ _) | (with_reducible refine blk_drew ?_) | (with_reducible refine blk_alloc ?_ _) | (with_reducible refine blk_far ?_ (by assumption) _) | (first | with_reducible exact BK101.out))) (by kernel_rfl) rfl ?_) | ((with_reducible refine gate_ld (ty := 24) rfl ?_); (try (refine gate_guard (by rfl) ?_; dsimp only)); refine wpList_load_row rfl _ _ rfl _ rfl _ _ _ _ (by repeat (first | ((with_reducible refine gate_row16 ?_); with_reducible exact put16_0_16 (by repeat (first | (with_reducible refine blk_drewN ?_ _) | (with_reducible refine blk_drew ?_) | (with_reducible refine blk_alloc ?_ _) | (first | with_reducible exact BK101.out)))) | (with_reducible refine blk_far ?_ (by assumption) _) | (with_reducible refine blk_set ?_ _ _) | (with_reducible refine blk_drewN ?_ _) | (with_reducible refine blk_drew ?_) | (with_reducible refine blk_alloc ?_ _) | (first | with_reducible exact BK101.out))) Tryd.underlying24 rfl (by kernel_rfl) ?_; (try simp only [List.setIfInBounds_toArray, List.set_cons_zero, List.set_cons_succ])) | ((with_reducible refine gate_eql (ty := 24) rfl ?_); (try (refine gate_guard (by rfl) ?_; dsimp only)); refine eql24 rfl rfl rfl rfl true (by first | exact c26b0 | (simpa using c26b0)) ?_) | ((with_reducible refine gate_eql (ty := 24) rfl ?_); (try (refine gate_guard (by rfl) ?_; dsimp only)); refine eql24 rfl rfl rfl rfl false (by first | exact c26b0 | (simpa using c26b0)) ?_) | ((with_reducible refine gate_callee (f := 24) rfl ?_); refine goesL_ (some 7) rfl rfl Tryd.func24 (by kernel_rfl) rfl #[.int .i64 a0_12, .int .i64 65536] rfl (by (try simp only [List.map_toArray, List.map_cons, List.map_nil]); first | done | rfl | (simp only [List.length_drop, List.length_take]; rfl)) ?_; (with_reducible refine (bpdu_below.calls a0_12 65536 false _ A4.out).mono ?_); rintro e w' ⟨rfl, ⟨nd, rfl⟩⟩; refine ⟨_, rfl, ?_⟩))
   go_meet
   case rel => exact ⟨_, (false), (by first | rfl | (simp; done) | (simp [*]; done)), H', ⟨by first | omega | exact Nat.le_refl _⟩, ⟨by (with_reducible repeat (first | refine blk_drewN ?_ _ | refine blk_drew ?_ | refine blk_alloc ?_ _)); exact BK101.out⟩, ⟨by repeat (first | (with_reducible first | exact HB.out | apply below_alloc | apply pw_below_drewN | apply below_drew1 | refine below_set ?_ GE101.out) | exact HB.out)⟩⟩
 case rest =>
  clear HC2
  try clear c1
  try clear c2
  try clear p2
  try clear c5
  try clear c7
  try clear c9
  try clear c11
  try clear hcz11_0
  try clear hcz11_1
  try clear hcz11_10
  try clear hcz11_11
  try clear hcz11_12
  try clear hcz11_13
  try clear hcz11_14
  try clear hcz11_15
  try clear hcz11_2
  try clear hcz11_3
  try clear hcz11_4
  try clear hcz11_5
  try clear hcz11_6
  try clear hcz11_7
  try clear hcz11_8
  try clear hcz11_9
  try clear hcz12_0
  try clear hcz12_1
  try clear hcz12_10
  try clear hcz12_11
  try clear hcz12_12
  try clear hcz12_13
  try clear hcz12_14
  try clear hcz12_15
  try clear hcz12_2
  try clear hcz12_3
  try clear hcz12_4
  try clear hcz12_5
  try clear hcz12_6
  try clear hcz12_7
  try clear hcz12_8
  try clear hcz12_9
  try clear hcz13_0
  try clear hcz13_1
  try clear hcz13_10
  try clear hcz13_11
  try clear hcz13_12
  try clear hcz13_13
  try clear hcz13_14
  try clear hcz13_15
  try clear hcz13_2
  try clear hcz13_3
  try clear hcz13_4
  try clear hcz13_5
  try clear hcz13_6
  try clear hcz13_7
  try clear hcz13_8
  try clear hcz13_9
  try clear hcz14_0
  try clear hcz14_1
  try clear hcz14_10
  try clear hcz14_11
  try clear hcz14_12
  try clear hcz14_13
  try clear hcz14_14
  try clear hcz14_15
  try clear hcz14_2
  try clear hcz14_3
  try clear hcz14_4
  try clear hcz14_5
  try clear hcz14_6
  try clear hcz14_7
  try clear hcz14_8
  try clear hcz14_9
  try clear hfz11_0
  try clear hfz11_1
  try clear hfz11_10
  try clear hfz11_11
  try clear hfz11_12
  try clear hfz11_13
  try clear hfz11_14
  try clear hfz11_15
  try clear hfz11_2
  try clear hfz11_3
  try clear hfz11_4
  try clear hfz11_5
  try clear hfz11_6
  try clear hfz11_7
  try clear hfz11_8
  try clear hfz11_9
  try clear hfz12_0
  try clear hfz12_1
  try clear hfz12_10
  try clear hfz12_11
  try clear hfz12_12
  try clear hfz12_13
  try clear hfz12_14
  try clear hfz12_15
  try clear hfz12_2
  try clear hfz12_3
  try clear hfz12_4
  try clear hfz12_5
  try clear hfz12_6
  try clear hfz12_7
  try clear hfz12_8
  try clear hfz12_9
  try clear hfz13_0
  try clear hfz13_1
  try clear hfz13_10
  try clear hfz13_11
  try clear hfz13_12
  try clear hfz13_13
  try clear hfz13_14
  try clear hfz13_15
  try clear hfz13_2
  try clear hfz13_3
  try clear hfz13_4
  try clear hfz13_5
  try clear hfz13_6
  try clear hfz13_7
  try clear hfz13_8
  try clear hfz13_9
  try clear hfz14_0
  try clear hfz14_1
  try clear hfz14_10
  try clear hfz14_11
  try clear hfz14_12
  try clear hfz14_13
  try clear hfz14_14
  try clear hfz14_15
  try clear hfz14_2
  try clear hfz14_3
  try clear hfz14_4
  try clear hfz14_5
  try clear hfz14_6
  try clear hfz14_7
  try clear hfz14_8
  try clear hfz14_9
  obtain ⟨kq, x3_1, rfl, HA, HJ1, BK101, HB⟩ := hcut
  cases kq with
  | zero => exact absurd HA.out (by simp [bpdu_Check.j0])
  | succ kj1 =>
   have H := HA.out
   clear HA
   simp only [bpdu_Check.j0] at H
   have HC15 := Aside0.mk H
   clear H
   go_upto_region 2 with (fail)
   go_cut [4] (fun v4 wc => ∃ (kq : Nat) (x4_14 : Bool), v4 = .bool x4_14 ∧ Aside0 (bpdu_Check.j1 kq x4_14 a0_0 a0_1 a0_2 a0_3 a0_4 a0_5 a0_6 a0_7 a0_8 a0_9 a0_10 a0_11 a0_12 a0_13 a0_14 a0_15 = some r) ∧ Aside0 (kq ≤ kj1) ∧ Aside0 (wc.heap[gb101]? = some (.cells #[.int .i64 a0_0, .bool a0_1, .bool a0_2, .bool a0_3, .bool a0_4, .bool a0_5, .bool a0_6, .int .i64 a0_7, .int .u64 a0_8, .int .i64 a0_9, .int .u64 a0_10, .int .i64 a0_11, .int .i64 a0_12, .int .i64 a0_13, .int .i64 a0_14, .int .i64 a0_15] 24 (0, 0))) ∧ Aside0 (Below w.heap.size w wc))
   case first =>
    have H := HC15.out
    clear HC15
    by_cases c16 : x3_1 = true
    ·subst c16
     have H1 : ((bpdu_below.f a0_7 4).bind fun t106 => (if t106 = true then ((bpdu_below.f a0_9 4294967296).bind fun t107 => (if t107 = true then ((bpdu_below.f a0_11 65536).bind fun t108 => (bpdu_Check.j1 kj1 t108 a0_0 a0_1 a0_2 a0_3 a0_4 a0_5 a0_6 a0_7 a0_8 a0_9 a0_10 a0_11 a0_12 a0_13 a0_14 a0_15)) else (bpdu_Check.j1 kj1 false a0_0 a0_1 a0_2 a0_3 a0_4 a0_5 a0_6 a0_7 a0_8 a0_9 a0_10 a0_11 a0_12 a0_13 a0_14 a0_15))) else (bpdu_Check.j1 kj1 false a0_0 a0_1 a0_2 a0_3 a0_4 a0_5 a0_6 a0_7 a0_8 a0_9 a0_10 a0_11 a0_12 a0_13 a0_14 a0_15))) = some r := by rw [if_pos rfl] at H; exact H
     clear H
     have H := H1
     clear H1
     replace H := Option.bind_eq_some_iff.mp H
     obtain ⟨t106, A170, H⟩ := H
     replace H : (if t106 = true then ((bpdu_below.f a0_9 4294967296).bind fun t107 => (if t107 = true then ((bpdu_below.f a0_11 65536).bind fun t108 => (bpdu_Check.j1 kj1 t108 a0_0 a0_1 a0_2 a0_3 a0_4 a0_5 a0_6 a0_7 a0_8 a0_9 a0_10 a0_11 a0_12 a0_13 a0_14 a0_15)) else (bpdu_Check.j1 kj1 false a0_0 a0_1 a0_2 a0_3 a0_4 a0_5 a0_6 a0_7 a0_8 a0_9 a0_10 a0_11 a0_12 a0_13 a0_14 a0_15))) else (bpdu_Check.j1 kj1 false a0_0 a0_1 a0_2 a0_3 a0_4 a0_5 a0_6 a0_7 a0_8 a0_9 a0_10 a0_11 a0_12 a0_13 a0_14 a0_15)) = some r := H
     have A17 := Aside0.mk A170
     clear A170
     by_cases c18 : t106 = true
     ·subst c18
      have H1 : ((bpdu_below.f a0_9 4294967296).bind fun t107 => (if t107 = true then ((bpdu_below.f a0_11 65536).bind fun t108 => (bpdu_Check.j1 kj1 t108 a0_0 a0_1 a0_2 a0_3 a0_4 a0_5 a0_6 a0_7 a0_8 a0_9 a0_10 a0_11 a0_12 a0_13 a0_14 a0_15)) else (bpdu_Check.j1 kj1 false a0_0 a0_1 a0_2 a0_3 a0_4 a0_5 a0_6 a0_7 a0_8 a0_9 a0_10 a0_11 a0_12 a0_13 a0_14 a0_15))) = some r := by rw [if_pos rfl] at H; exact H
      clear H
      have H := H1
      clear H1
      replace H := Option.bind_eq_some_iff.mp H
      obtain ⟨t107, A190, H⟩ := H
      replace H : (if t107 = true then ((bpdu_below.f a0_11 65536).bind fun t108 => (bpdu_Check.j1 kj1 t108 a0_0 a0_1 a0_2 a0_3 a0_4 a0_5 a0_6 a0_7 a0_8 a0_9 a0_10 a0_11 a0_12 a0_13 a0_14 a0_15)) else (bpdu_Check.j1 kj1 false a0_0 a0_1 a0_2 a0_3 a0_4 a0_5 a0_6 a0_7 a0_8 a0_9 a0_10 a0_11 a0_12 a0_13 a0_14 a0_15)) = some r := H
      have A19 := Aside0.mk A190
      clear A190
      by_cases c20 : t107 = true
      ·subst c20
       have H1 : ((bpdu_below.f a0_11 65536).bind fun t108 => (bpdu_Check.j1 kj1 t108 a0_0 a0_1 a0_2 a0_3 a0_4 a0_5 a0_6 a0_7 a0_8 a0_9 a0_10 a0_11 a0_12 a0_13 a0_14 a0_15)) = some r := by rw [if_pos rfl] at H; exact H
       clear H
       have H := H1
       clear H1
       replace H := Option.bind_eq_some_iff.mp H
       obtain ⟨t108, A210, H⟩ := H
       replace H : (bpdu_Check.j1 kj1 t108 a0_0 a0_1 a0_2 a0_3 a0_4 a0_5 a0_6 a0_7 a0_8 a0_9 a0_10 a0_11 a0_12 a0_13 a0_14 a0_15) = some r := H
       have A21 := Aside0.mk A210
       clear A210
       have H' := Aside0.mk H
       clear H
       obtain ⟨hcz22_0, hcz22_1, hcz22_2, hcz22_3, hcz22_4, hcz22_5, hcz22_6, hcz22_7, hcz22_8, hcz22_9, hcz22_10, hcz22_11, hcz22_12, hcz22_13, hcz22_14, hcz22_15⟩ := cells16 BK101.out
       obtain ⟨hfz22_0, hfz22_1, hfz22_2, hfz22_3, hfz22_4, hfz22_5, hfz22_6, hfz22_7, hfz22_8, hfz22_9, hfz22_10, hfz22_11, hfz22_12, hfz22_13, hfz22_14, hfz22_15⟩ := frozen16 BK101.out
       go_wp2_with (first | ((with_reducible refine gate_st (ty := 24) rfl ?_); (try (refine gate_guard (by rfl) ?_; dsimp only)); refine store16 rfl rfl rfl rfl rfl (by repeat (first | (with_reducible refine blk_drewN ?_ _) | (with_reducible refine blk_drew ?_) | (with_reducible refine blk_alloc ?_ _) | (with_reducible refine blk_far ?_ (by assumption) _) | (first | with_reducible exact BK101.out))) (by kernel_rfl) rfl ?_) | ((with_reducible refine gate_ld (ty := 24) rfl ?_); (try (refine gate_guard (by rfl) ?_; dsimp only)); refine wpList_load_row rfl _ _ rfl _ rfl _ _ _ _ (by repeat (first | ((with_reducible refine gate_row16 ?_); with_reducible exact put16_0_16 (by repeat (first | (with_reducible refine blk_drewN ?_ _) | (with_reducible refine blk_drew ?_) | (with_reducible refine blk_alloc ?_ _) | (first | with_reducible exact BK101.out)))) | (with_reducible refine blk_far ?_ (by assumption) _) | (with_reducible refine blk_set ?_ _ _) | (with_reducible refine blk_drewN ?_ _) | (with_reducible refine blk_drew ?_) | (with_reducible refine blk_alloc ?_ _) | (first | with_reducible exact BK101.out))) Tryd.underlying24 rfl (by kernel_rfl) ?_; (try simp only [List.setIfInBounds_toArray, List.set_cons_zero, List.set_cons_succ])) | ((with_reducible refine gate_eql (ty := 24) rfl ?_); (try (refine gate_guard (by rfl) ?_; dsimp only)); refine eql24 rfl rfl rfl rfl true (by first | exact c26b0 | (simpa using c26b0)) ?_) | ((with_reducible refine gate_eql (ty := 24) rfl ?_); (try (refine gate_guard (by rfl) ?_; dsimp only)); refine eql24 rfl rfl rfl rfl false (by first | exact c26b0 | (simpa using c26b0)) ?_) | (go_at_call 24; (with_reducible refine (bpdu_below.calls a0_7 4 true _ A17.out).mono ?_); rintro e w' ⟨rfl, ⟨nd, rfl⟩⟩) | (go_at_call 24; (with_reducible refine (bpdu_below.calls a0_9 4294967296 true _ A19.out).mono ?_); rintro e w' ⟨rfl, ⟨nd, rfl⟩⟩) | (go_at_call 24; (with_reducible refine (bpdu_below.calls a0_11 65536 t108 _ A21.out).mono ?_); rintro e w' ⟨rfl, ⟨nd, rfl⟩⟩))
       go_meet
       case rel => exact ⟨_, (t108), (by first | rfl | (simp; done) | (simp [*]; done)), H', ⟨by have := HJ1.out; first | omega | exact Nat.le_refl _⟩, ⟨by (with_reducible repeat (first | refine blk_drewN ?_ _ | refine blk_drew ?_ | refine blk_alloc ?_ _)); exact BK101.out⟩, ⟨by repeat (first | (with_reducible first | exact HB.out | apply below_alloc | apply pw_below_drewN | apply below_drew1 | refine below_set ?_ GE101.out) | exact HB.out)⟩⟩
      ·replace c20 := Bool.eq_false_iff.mpr c20
       subst c20
       have H1 : (bpdu_Check.j1 kj1 false a0_0 a0_1 a0_2 a0_3 a0_4 a0_5 a0_6 a0_7 a0_8 a0_9 a0_10 a0_11 a0_12 a0_13 a0_14 a0_15) = some r := by rw [if_neg (show ¬ (false = true) by decide)] at H; exact H
       clear H
       have H := H1
       clear H1
       have H' := Aside0.mk H
       clear H
       obtain ⟨hcz23_0, hcz23_1, hcz23_2, hcz23_3, hcz23_4, hcz23_5, hcz23_6, hcz23_7, hcz23_8, hcz23_9, hcz23_10, hcz23_11, hcz23_12, hcz23_13, hcz23_14, hcz23_15⟩ := cells16 BK101.out
       obtain ⟨hfz23_0, hfz23_1, hfz23_2, hfz23_3, hfz23_4, hfz23_5, hfz23_6, hfz23_7, hfz23_8, hfz23_9, hfz23_10, hfz23_11, hfz23_12, hfz23_13, hfz23_14, hfz23_15⟩ := frozen16 BK101.out
       go_wp2_with (first | ((with_reducible refine gate_st (ty := 24) rfl ?_); (try (refine gate_guard (by rfl) ?_; dsimp only)); refine store16 rfl rfl rfl rfl rfl (by repeat (first | (with_reducible refine blk_drewN ?_ _) | (with_reducible refine blk_drew ?_) | (with_reducible refine blk_alloc ?_ _) | (with_reducible refine blk_far ?_ (by assumption) _) | (first | with_reducible exact BK101.out))) (by kernel_rfl) rfl ?_) | ((with_reducible refine gate_ld (ty := 24) rfl ?_); (try (refine gate_guard (by rfl) ?_; dsimp only)); refine wpList_load_row rfl _ _ rfl _ rfl _ _ _ _ (by repeat (first | ((with_reducible refine gate_row16 ?_); with_reducible exact put16_0_16 (by repeat (first | (with_reducible refine blk_drewN ?_ _) | (with_reducible refine blk_drew ?_) | (with_reducible refine blk_alloc ?_ _) | (first | with_reducible exact BK101.out)))) | (with_reducible refine blk_far ?_ (by assumption) _) | (with_reducible refine blk_set ?_ _ _) | (with_reducible refine blk_drewN ?_ _) | (with_reducible refine blk_drew ?_) | (with_reducible refine blk_alloc ?_ _) | (first | with_reducible exact BK101.out))) Tryd.underlying24 rfl (by kernel_rfl) ?_; (try simp only [List.setIfInBounds_toArray, List.set_cons_zero, List.set_cons_succ])) | ((with_reducible refine gate_eql (ty := 24) rfl ?_); (try (refine gate_guard (by rfl) ?_; dsimp only)); refine eql24 rfl rfl rfl rfl true (by first | exact c26b0 | (simpa using c26b0)) ?_) | ((with_reducible refine gate_eql (ty := 24) rfl ?_); (try (refine gate_guard (by rfl) ?_; dsimp only)); refine eql24 rfl rfl rfl rfl false (by first | exact c26b0 | (simpa using c26b0)) ?_) | (go_at_call 24; (with_reducible refine (bpdu_below.calls a0_7 4 true _ A17.out).mono ?_); rintro e w' ⟨rfl, ⟨nd, rfl⟩⟩) | (go_at_call 24; (with_reducible refine (bpdu_below.calls a0_9 4294967296 false _ A19.out).mono ?_); rintro e w' ⟨rfl, ⟨nd, rfl⟩⟩))
       go_meet
       case rel => exact ⟨_, (false), (by first | rfl | (simp; done) | (simp [*]; done)), H', ⟨by have := HJ1.out; first | omega | exact Nat.le_refl _⟩, ⟨by (with_reducible repeat (first | refine blk_drewN ?_ _ | refine blk_drew ?_ | refine blk_alloc ?_ _)); exact BK101.out⟩, ⟨by repeat (first | (with_reducible first | exact HB.out | apply below_alloc | apply pw_below_drewN | apply below_drew1 | refine below_set ?_ GE101.out) | exact HB.out)⟩⟩
     ·replace c18 := Bool.eq_false_iff.mpr c18
      subst c18
      have H1 : (bpdu_Check.j1 kj1 false a0_0 a0_1 a0_2 a0_3 a0_4 a0_5 a0_6 a0_7 a0_8 a0_9 a0_10 a0_11 a0_12 a0_13 a0_14 a0_15) = some r := by rw [if_neg (show ¬ (false = true) by decide)] at H; exact H
      clear H
      have H := H1
      clear H1
      have H' := Aside0.mk H
      clear H
      obtain ⟨hcz24_0, hcz24_1, hcz24_2, hcz24_3, hcz24_4, hcz24_5, hcz24_6, hcz24_7, hcz24_8, hcz24_9, hcz24_10, hcz24_11, hcz24_12, hcz24_13, hcz24_14, hcz24_15⟩ := cells16 BK101.out
      obtain ⟨hfz24_0, hfz24_1, hfz24_2, hfz24_3, hfz24_4, hfz24_5, hfz24_6, hfz24_7, hfz24_8, hfz24_9, hfz24_10, hfz24_11, hfz24_12, hfz24_13, hfz24_14, hfz24_15⟩ := frozen16 BK101.out
      go_wp2_with (first | ((with_reducible refine gate_st (ty := 24) rfl ?_); (try (refine gate_guard (by rfl) ?_; dsimp only)); refine store16 rfl rfl rfl rfl rfl (by repeat (first | (with_reducible refine blk_drewN ?_ _) | (with_reducible refine blk_drew ?_) | (with_reducible refine blk_alloc ?_ _) | (with_reducible refine blk_far ?_ (by assumption) _) | (first | with_reducible exact BK101.out))) (by kernel_rfl) rfl ?_) | ((with_reducible refine gate_ld (ty := 24) rfl ?_); (try (refine gate_guard (by rfl) ?_; dsimp only)); refine wpList_load_row rfl _ _ rfl _ rfl _ _ _ _ (by repeat (first | ((with_reducible refine gate_row16 ?_); with_reducible exact put16_0_16 (by repeat (first | (with_reducible refine blk_drewN ?_ _) | (with_reducible refine blk_drew ?_) | (with_reducible refine blk_alloc ?_ _) | (first | with_reducible exact BK101.out)))) | (with_reducible refine blk_far ?_ (by assumption) _) | (with_reducible refine blk_set ?_ _ _) | (with_reducible refine blk_drewN ?_ _) | (with_reducible refine blk_drew ?_) | (with_reducible refine blk_alloc ?_ _) | (first | with_reducible exact BK101.out))) Tryd.underlying24 rfl (by kernel_rfl) ?_; (try simp only [List.setIfInBounds_toArray, List.set_cons_zero, List.set_cons_succ])) | ((with_reducible refine gate_eql (ty := 24) rfl ?_); (try (refine gate_guard (by rfl) ?_; dsimp only)); refine eql24 rfl rfl rfl rfl true (by first | exact c26b0 | (simpa using c26b0)) ?_) | ((with_reducible refine gate_eql (ty := 24) rfl ?_); (try (refine gate_guard (by rfl) ?_; dsimp only)); refine eql24 rfl rfl rfl rfl false (by first | exact c26b0 | (simpa using c26b0)) ?_) | (go_at_call 24; (with_reducible refine (bpdu_below.calls a0_7 4 false _ A17.out).mono ?_); rintro e w' ⟨rfl, ⟨nd, rfl⟩⟩))
      go_meet
      case rel => exact ⟨_, (false), (by first | rfl | (simp; done) | (simp [*]; done)), H', ⟨by have := HJ1.out; first | omega | exact Nat.le_refl _⟩, ⟨by (with_reducible repeat (first | refine blk_drewN ?_ _ | refine blk_drew ?_ | refine blk_alloc ?_ _)); exact BK101.out⟩, ⟨by repeat (first | (with_reducible first | exact HB.out | apply below_alloc | apply pw_below_drewN | apply below_drew1 | refine below_set ?_ GE101.out) | exact HB.out)⟩⟩
    ·replace c16 := Bool.eq_false_iff.mpr c16
     subst c16
     have H1 : (bpdu_Check.j1 kj1 false a0_0 a0_1 a0_2 a0_3 a0_4 a0_5 a0_6 a0_7 a0_8 a0_9 a0_10 a0_11 a0_12 a0_13 a0_14 a0_15) = some r := by rw [if_neg (show ¬ (false = true) by decide)] at H; exact H
     clear H
     have H := H1
     clear H1
     have H' := Aside0.mk H
     clear H
     go_wp2_with (first | ((with_reducible refine gate_st (ty := 24) rfl ?_); (try (refine gate_guard (by rfl) ?_; dsimp only)); refine store16 rfl rfl rfl rfl rfl (by repeat (first | (with_reducible refine blk_drewN ?_ _) | (with_reducible refine blk_drew ?_) | (with_reducible refine blk_alloc ?_ _) | (with_reducible refine blk_far ?_ (by assumption) _) | (first | with_reducible exact BK101.out))) (by kernel_rfl) rfl ?_) | ((with_reducible refine gate_ld (ty := 24) rfl ?_); (try (refine gate_guard (by rfl) ?_; dsimp only)); refine wpList_load_row rfl _ _ rfl _ rfl _ _ _ _ (by repeat (first | ((with_reducible refine gate_row16 ?_); with_reducible exact put16_0_16 (by repeat (first | (with_reducible refine blk_drewN ?_ _) | (with_reducible refine blk_drew ?_) | (with_reducible refine blk_alloc ?_ _) | (first | with_reducible exact BK101.out)))) | (with_reducible refine blk_far ?_ (by assumption) _) | (with_reducible refine blk_set ?_ _ _) | (with_reducible refine blk_drewN ?_ _) | (with_reducible refine blk_drew ?_) | (with_reducible refine blk_alloc ?_ _) | (first | with_reducible exact BK101.out))) Tryd.underlying24 rfl (by kernel_rfl) ?_; (try simp only [List.setIfInBounds_toArray, List.set_cons_zero, List.set_cons_succ])) | ((with_reducible refine gate_eql (ty := 24) rfl ?_); (try (refine gate_guard (by rfl) ?_; dsimp only)); refine eql24 rfl rfl rfl rfl true (by first | exact c26b0 | (simpa using c26b0)) ?_) | ((with_reducible refine gate_eql (ty := 24) rfl ?_); (try (refine gate_guard (by rfl) ?_; dsimp only)); refine eql24 rfl rfl rfl rfl false (by first | exact c26b0 | (simpa using c26b0)) ?_) | go_in)
     go_meet
     case rel => exact ⟨_, (false), (by first | rfl | (simp; done) | (simp [*]; done)), H', ⟨by have := HJ1.out; first | omega | exact Nat.le_refl _⟩, ⟨by (with_reducible repeat (first | refine blk_drewN ?_ _ | refine blk_drew ?_ | refine blk_alloc ?_ _)); exact BK101.out⟩, ⟨by repeat (first | (with_reducible first | exact HB.out | apply below_alloc | apply pw_below_drewN | apply below_drew1 | refine below_set ?_ GE101.out) | exact HB.out)⟩⟩
   case rest =>
    clear HC15
    try clear c1
    try clear c2
    try clear p2
    try clear c5
    try clear c7
    try clear c9
    try clear c11
    try clear c16
    try clear c18
    try clear c20
    try clear c24
    try clear hcz11_0
    try clear hcz11_1
    try clear hcz11_10
    try clear hcz11_11
    try clear hcz11_12
    try clear hcz11_13
    try clear hcz11_14
    try clear hcz11_15
    try clear hcz11_2
    try clear hcz11_3
    try clear hcz11_4
    try clear hcz11_5
    try clear hcz11_6
    try clear hcz11_7
    try clear hcz11_8
    try clear hcz11_9
    try clear hcz12_0
    try clear hcz12_1
    try clear hcz12_10
    try clear hcz12_11
    try clear hcz12_12
    try clear hcz12_13
    try clear hcz12_14
    try clear hcz12_15
    try clear hcz12_2
    try clear hcz12_3
    try clear hcz12_4
    try clear hcz12_5
    try clear hcz12_6
    try clear hcz12_7
    try clear hcz12_8
    try clear hcz12_9
    try clear hcz13_0
    try clear hcz13_1
    try clear hcz13_10
    try clear hcz13_11
    try clear hcz13_12
    try clear hcz13_13
    try clear hcz13_14
    try clear hcz13_15
    try clear hcz13_2
    try clear hcz13_3
    try clear hcz13_4
    try clear hcz13_5
    try clear hcz13_6
    try clear hcz13_7
    try clear hcz13_8
    try clear hcz13_9
    try clear hcz14_0
    try clear hcz14_1
    try clear hcz14_10
    try clear hcz14_11
    try clear hcz14_12
    try clear hcz14_13
    try clear hcz14_14
    try clear hcz14_15
    try clear hcz14_2
    try clear hcz14_3
    try clear hcz14_4
    try clear hcz14_5
    try clear hcz14_6
    try clear hcz14_7
    try clear hcz14_8
    try clear hcz14_9
    try clear hcz22_0
    try clear hcz22_1
    try clear hcz22_10
    try clear hcz22_11
    try clear hcz22_12
    try clear hcz22_13
    try clear hcz22_14
    try clear hcz22_15
    try clear hcz22_2
    try clear hcz22_3
    try clear hcz22_4
    try clear hcz22_5
    try clear hcz22_6
    try clear hcz22_7
    try clear hcz22_8
    try clear hcz22_9
    try clear hcz23_0
    try clear hcz23_1
    try clear hcz23_10
    try clear hcz23_11
    try clear hcz23_12
    try clear hcz23_13
    try clear hcz23_14
    try clear hcz23_15
    try clear hcz23_2
    try clear hcz23_3
    try clear hcz23_4
    try clear hcz23_5
    try clear hcz23_6
    try clear hcz23_7
    try clear hcz23_8
    try clear hcz23_9
    try clear hcz24_0
    try clear hcz24_1
    try clear hcz24_10
    try clear hcz24_11
    try clear hcz24_12
    try clear hcz24_13
    try clear hcz24_14
    try clear hcz24_15
    try clear hcz24_2
    try clear hcz24_3
    try clear hcz24_4
    try clear hcz24_5
    try clear hcz24_6
    try clear hcz24_7
    try clear hcz24_8
    try clear hcz24_9
    try clear hfz11_0
    try clear hfz11_1
    try clear hfz11_10
    try clear hfz11_11
    try clear hfz11_12
    try clear hfz11_13
    try clear hfz11_14
    try clear hfz11_15
    try clear hfz11_2
    try clear hfz11_3
    try clear hfz11_4
    try clear hfz11_5
    try clear hfz11_6
    try clear hfz11_7
    try clear hfz11_8
    try clear hfz11_9
    try clear hfz12_0
    try clear hfz12_1
    try clear hfz12_10
    try clear hfz12_11
    try clear hfz12_12
    try clear hfz12_13
    try clear hfz12_14
    try clear hfz12_15
    try clear hfz12_2
    try clear hfz12_3
    try clear hfz12_4
    try clear hfz12_5
    try clear hfz12_6
    try clear hfz12_7
    try clear hfz12_8
    try clear hfz12_9
    try clear hfz13_0
    try clear hfz13_1
    try clear hfz13_10
    try clear hfz13_11
    try clear hfz13_12
    try clear hfz13_13
    try clear hfz13_14
    try clear hfz13_15
    try clear hfz13_2
    try clear hfz13_3
    try clear hfz13_4
    try clear hfz13_5
    try clear hfz13_6
    try clear hfz13_7
    try clear hfz13_8
    try clear hfz13_9
    try clear hfz14_0
    try clear hfz14_1
    try clear hfz14_10
    try clear hfz14_11
    try clear hfz14_12
    try clear hfz14_13
    try clear hfz14_14
    try clear hfz14_15
    try clear hfz14_2
    try clear hfz14_3
    try clear hfz14_4
    try clear hfz14_5
    try clear hfz14_6
    try clear hfz14_7
    try clear hfz14_8
    try clear hfz14_9
    try clear hfz22_0
    try clear hfz22_1
    try clear hfz22_10
    try clear hfz22_11
    try clear hfz22_12
    try clear hfz22_13
    try clear hfz22_14
    try clear hfz22_15
    try clear hfz22_2
    try clear hfz22_3
    try clear hfz22_4
    try clear hfz22_5
    try clear hfz22_6
    try clear hfz22_7
    try clear hfz22_8
    try clear hfz22_9
    try clear hfz23_0
    try clear hfz23_1
    try clear hfz23_10
    try clear hfz23_11
    try clear hfz23_12
    try clear hfz23_13
    try clear hfz23_14
    try clear hfz23_15
    try clear hfz23_2
    try clear hfz23_3
    try clear hfz23_4
    try clear hfz23_5
    try clear hfz23_6
    try clear hfz23_7
    try clear hfz23_8
    try clear hfz23_9
    try clear hfz24_0
    try clear hfz24_1
    try clear hfz24_10
    try clear hfz24_11
    try clear hfz24_12
    try clear hfz24_13
    try clear hfz24_14
    try clear hfz24_15
    try clear hfz24_2
    try clear hfz24_3
    try clear hfz24_4
    try clear hfz24_5
    try clear hfz24_6
    try clear hfz24_7
    try clear hfz24_8
    try clear hfz24_9
    try clear p2
    obtain ⟨kq, x4_14, rfl, HA, HJ14, BK101, HB⟩ := hcut
    cases kq with
    | zero => exact absurd HA.out (by simp [bpdu_Check.j1])
    | succ kj14 =>
     have H := HA.out
     clear HA
     simp only [bpdu_Check.j1] at H
     by_cases c25 : a0_0 = 128
     ·rw [if_pos c25] at H
      have c25b0 : (a0_0 == 128) = true := beq_iff_eq.mpr c25
      have c25b1 : (a0_0 != 128) = false := bne_eq_false_iff_eq.mpr c25
      clear c25
      by_cases c26 : ((a0_0 == 128 && (!a0_1 && (!a0_2 && (!a0_3 && (!a0_4 && (!a0_5 && (!a0_6 && (a0_7 == 0 && (a0_8 == 0 && (a0_9 == 0 && (a0_10 == 0 && (a0_11 == 0 && (a0_12 == 0 && (a0_13 == 0 && (a0_14 == 0 && (a0_15 == 0)))))))))))))))) = true)
      ·rw [if_pos c26] at H
       have c26b0 : (a0_0 == 128 && (!a0_1 && (!a0_2 && (!a0_3 && (!a0_4 && (!a0_5 && (!a0_6 && (a0_7 == 0 && (a0_8 == 0 && (a0_9 == 0 && (a0_10 == 0 && (a0_11 == 0 && (a0_12 == 0 && (a0_13 == 0 && (a0_14 == 0 && (a0_15 == 0)))))))))))))))) = true := c26
       clear c26
       obtain rfl := Option.some.inj H
       obtain ⟨hcz27_0, hcz27_1, hcz27_2, hcz27_3, hcz27_4, hcz27_5, hcz27_6, hcz27_7, hcz27_8, hcz27_9, hcz27_10, hcz27_11, hcz27_12, hcz27_13, hcz27_14, hcz27_15⟩ := cells16 BK101.out
       obtain ⟨hfz27_0, hfz27_1, hfz27_2, hfz27_3, hfz27_4, hfz27_5, hfz27_6, hfz27_7, hfz27_8, hfz27_9, hfz27_10, hfz27_11, hfz27_12, hfz27_13, hfz27_14, hfz27_15⟩ := frozen16 BK101.out
       go_wp2_with (first | ((with_reducible refine gate_st (ty := 24) rfl ?_); (try (refine gate_guard (by rfl) ?_; dsimp only)); refine store16 rfl rfl rfl rfl rfl (by repeat (first | (with_reducible refine blk_drewN ?_ _) | (with_reducible refine blk_drew ?_) | (with_reducible refine blk_alloc ?_ _) | (with_reducible refine blk_far ?_ (by assumption) _) | (first | with_reducible exact BK101.out))) (by kernel_rfl) rfl ?_) | ((with_reducible refine gate_ld (ty := 24) rfl ?_); (try (refine gate_guard (by rfl) ?_; dsimp only)); refine wpList_load_row rfl _ _ rfl _ rfl _ _ _ _ (by repeat (first | ((with_reducible refine gate_row16 ?_); with_reducible exact put16_0_16 (by repeat (first | (with_reducible refine blk_drewN ?_ _) | (with_reducible refine blk_drew ?_) | (with_reducible refine blk_alloc ?_ _) | (first | with_reducible exact BK101.out)))) | (with_reducible refine blk_far ?_ (by assumption) _) | (with_reducible refine blk_set ?_ _ _) | (with_reducible refine blk_drewN ?_ _) | (with_reducible refine blk_drew ?_) | (with_reducible refine blk_alloc ?_ _) | (first | with_reducible exact BK101.out))) Tryd.underlying24 rfl (by kernel_rfl) ?_; (try simp only [List.setIfInBounds_toArray, List.set_cons_zero, List.set_cons_succ])) | ((with_reducible refine gate_eql (ty := 24) rfl ?_); (try (refine gate_guard (by rfl) ?_; dsimp only)); refine eql24 rfl rfl rfl rfl true (by first | exact c26b0 | (simpa using c26b0)) ?_) | ((with_reducible refine gate_eql (ty := 24) rfl ?_); (try (refine gate_guard (by rfl) ?_; dsimp only)); refine eql24 rfl rfl rfl rfl false (by first | exact c26b0 | (simpa using c26b0)) ?_) | go_in)
       all_goals go_ret
       all_goals exact ⟨by first | rfl | (simp [errW_none, errW_some] <;> rfl) | (simp [*, errW_none, errW_some] <;> rfl) | (simp [*, IntKind.wrap_u32]; done) | (simp_all [IntKind.wrap_u32]; done), by repeat (first | (with_reducible first | exact HB.out | apply below_alloc | apply pw_below_drewN | apply below_drew1 | refine below_set ?_ GE101.out) | exact HB.out)⟩
      ·rw [if_neg c26] at H
       have c26b0 : (a0_0 == 128 && (!a0_1 && (!a0_2 && (!a0_3 && (!a0_4 && (!a0_5 && (!a0_6 && (a0_7 == 0 && (a0_8 == 0 && (a0_9 == 0 && (a0_10 == 0 && (a0_11 == 0 && (a0_12 == 0 && (a0_13 == 0 && (a0_14 == 0 && (a0_15 == 0)))))))))))))))) = false := by simpa using c26
       (try (have c26b3 : ¬ (a0_0 = 128 && (!a0_1 && (!a0_2 && (!a0_3 && (!a0_4 && (!a0_5 && (!a0_6 && (a0_7 == 0 && (a0_8 == 0 && (a0_9 == 0 && (a0_10 == 0 && (a0_11 == 0 && (a0_12 == 0 && (a0_13 == 0 && (a0_14 == 0 && (a0_15 == 0)))))))))))))))) := by simpa using c26))
       clear c26
       obtain rfl := Option.some.inj H
       obtain ⟨hcz28_0, hcz28_1, hcz28_2, hcz28_3, hcz28_4, hcz28_5, hcz28_6, hcz28_7, hcz28_8, hcz28_9, hcz28_10, hcz28_11, hcz28_12, hcz28_13, hcz28_14, hcz28_15⟩ := cells16 BK101.out
       obtain ⟨hfz28_0, hfz28_1, hfz28_2, hfz28_3, hfz28_4, hfz28_5, hfz28_6, hfz28_7, hfz28_8, hfz28_9, hfz28_10, hfz28_11, hfz28_12, hfz28_13, hfz28_14, hfz28_15⟩ := frozen16 BK101.out
       go_wp2_with (first | ((with_reducible refine gate_st (ty := 24) rfl ?_); (try (refine gate_guard (by rfl) ?_; dsimp only)); refine store16 rfl rfl rfl rfl rfl (by repeat (first | (with_reducible refine blk_drewN ?_ _) | (with_reducible refine blk_drew ?_) | (with_reducible refine blk_alloc ?_ _) | (with_reducible refine blk_far ?_ (by assumption) _) | (first | with_reducible exact BK101.out))) (by kernel_rfl) rfl ?_) | ((with_reducible refine gate_ld (ty := 24) rfl ?_); (try (refine gate_guard (by rfl) ?_; dsimp only)); refine wpList_load_row rfl _ _ rfl _ rfl _ _ _ _ (by repeat (first | ((with_reducible refine gate_row16 ?_); with_reducible exact put16_0_16 (by repeat (first | (with_reducible refine blk_drewN ?_ _) | (with_reducible refine blk_drew ?_) | (with_reducible refine blk_alloc ?_ _) | (first | with_reducible exact BK101.out)))) | (with_reducible refine blk_far ?_ (by assumption) _) | (with_reducible refine blk_set ?_ _ _) | (with_reducible refine blk_drewN ?_ _) | (with_reducible refine blk_drew ?_) | (with_reducible refine blk_alloc ?_ _) | (first | with_reducible exact BK101.out))) Tryd.underlying24 rfl (by kernel_rfl) ?_; (try simp only [List.setIfInBounds_toArray, List.set_cons_zero, List.set_cons_succ])) | ((with_reducible refine gate_eql (ty := 24) rfl ?_); (try (refine gate_guard (by rfl) ?_; dsimp only)); refine eql24 rfl rfl rfl rfl true (by first | exact c26b0 | (simpa using c26b0)) ?_) | ((with_reducible refine gate_eql (ty := 24) rfl ?_); (try (refine gate_guard (by rfl) ?_; dsimp only)); refine eql24 rfl rfl rfl rfl false (by first | exact c26b0 | (simpa using c26b0)) ?_) | go_in)
       all_goals go_ret
       all_goals exact ⟨by first | rfl | (simp [errW_none, errW_some] <;> rfl) | (simp [*, errW_none, errW_some] <;> rfl) | (simp [*, IntKind.wrap_u32]; done) | (simp_all [IntKind.wrap_u32]; done), by repeat (first | (with_reducible first | exact HB.out | apply below_alloc | apply pw_below_drewN | apply below_drew1 | refine below_set ?_ GE101.out) | exact HB.out)⟩
     ·rw [if_neg c25] at H
      have c25b0 : (a0_0 == 128) = false := beq_eq_false_iff_ne.mpr c25
      have c25b1 : (a0_0 != 128) = true := bne_iff_ne.mpr c25
      by_cases c29 : a0_0 = 0
      ·rw [if_pos c29] at H
       have c29b0 : (a0_0 == 0) = true := beq_iff_eq.mpr c29
       have c29b1 : (a0_0 != 0) = false := bne_eq_false_iff_eq.mpr c29
       clear c29
       by_cases c30 : x4_14 = true
       ·subst c30
        have H1 : (if a0_2 = true then (some 91) else (if a0_3 = true then (some 91) else (if a0_4 = true then (some 91) else (if a0_5 = true then (some 91) else (if a0_7 = 0 then (some 0) else (some 91)))))) = some r := by rw [if_pos rfl] at H; exact H
        clear H
        have H := H1
        clear H1
        by_cases c31 : a0_2 = true
        ·subst c31
         have H1 : (some 91) = some r := by rw [if_pos rfl] at H; exact H
         clear H
         have H := H1
         clear H1
         obtain rfl := Option.some.inj H
         obtain ⟨hcz32_0, hcz32_1, hcz32_2, hcz32_3, hcz32_4, hcz32_5, hcz32_6, hcz32_7, hcz32_8, hcz32_9, hcz32_10, hcz32_11, hcz32_12, hcz32_13, hcz32_14, hcz32_15⟩ := cells16 BK101.out
         obtain ⟨hfz32_0, hfz32_1, hfz32_2, hfz32_3, hfz32_4, hfz32_5, hfz32_6, hfz32_7, hfz32_8, hfz32_9, hfz32_10, hfz32_11, hfz32_12, hfz32_13, hfz32_14, hfz32_15⟩ := frozen16 BK101.out
         go_wp2_with (first | ((with_reducible refine gate_st (ty := 24) rfl ?_); (try (refine gate_guard (by rfl) ?_; dsimp only)); refine store16 rfl rfl rfl rfl rfl (by repeat (first | (with_reducible refine blk_drewN ?_ _) | (with_reducible refine blk_drew ?_) | (with_reducible refine blk_alloc ?_ _) | (with_reducible refine blk_far ?_ (by assumption) _) | (first | with_reducible exact BK101.out))) (by kernel_rfl) rfl ?_) | ((with_reducible refine gate_ld (ty := 24) rfl ?_); (try (refine gate_guard (by rfl) ?_; dsimp only)); refine wpList_load_row rfl _ _ rfl _ rfl _ _ _ _ (by repeat (first | ((with_reducible refine gate_row16 ?_); with_reducible exact put16_0_16 (by repeat (first | (with_reducible refine blk_drewN ?_ _) | (with_reducible refine blk_drew ?_) | (with_reducible refine blk_alloc ?_ _) | (first | with_reducible exact BK101.out)))) | (with_reducible refine blk_far ?_ (by assumption) _) | (with_reducible refine blk_set ?_ _ _) | (with_reducible refine blk_drewN ?_ _) | (with_reducible refine blk_drew ?_) | (with_reducible refine blk_alloc ?_ _) | (first | with_reducible exact BK101.out))) Tryd.underlying24 rfl (by kernel_rfl) ?_; (try simp only [List.setIfInBounds_toArray, List.set_cons_zero, List.set_cons_succ])) | ((with_reducible refine gate_eql (ty := 24) rfl ?_); (try (refine gate_guard (by rfl) ?_; dsimp only)); refine eql24 rfl rfl rfl rfl true (by first | exact c26b0 | (simpa using c26b0)) ?_) | ((with_reducible refine gate_eql (ty := 24) rfl ?_); (try (refine gate_guard (by rfl) ?_; dsimp only)); refine eql24 rfl rfl rfl rfl false (by first | exact c26b0 | (simpa using c26b0)) ?_) | go_in)
         all_goals go_ret
         all_goals exact ⟨by first | rfl | (simp [errW_none, errW_some] <;> rfl) | (simp [*, errW_none, errW_some] <;> rfl) | (simp [*, IntKind.wrap_u32]; done) | (simp_all [IntKind.wrap_u32]; done), by repeat (first | (with_reducible first | exact HB.out | apply below_alloc | apply pw_below_drewN | apply below_drew1 | refine below_set ?_ GE101.out) | exact HB.out)⟩
        ·replace c31 := Bool.eq_false_iff.mpr c31
         subst c31
         have H1 : (if a0_3 = true then (some 91) else (if a0_4 = true then (some 91) else (if a0_5 = true then (some 91) else (if a0_7 = 0 then (some 0) else (some 91))))) = some r := by rw [if_neg (show ¬ (false = true) by decide)] at H; exact H
         clear H
         have H := H1
         clear H1
         by_cases c33 : a0_3 = true
         ·subst c33
          have H1 : (some 91) = some r := by rw [if_pos rfl] at H; exact H
          clear H
          have H := H1
          clear H1
          obtain rfl := Option.some.inj H
          obtain ⟨hcz34_0, hcz34_1, hcz34_2, hcz34_3, hcz34_4, hcz34_5, hcz34_6, hcz34_7, hcz34_8, hcz34_9, hcz34_10, hcz34_11, hcz34_12, hcz34_13, hcz34_14, hcz34_15⟩ := cells16 BK101.out
          obtain ⟨hfz34_0, hfz34_1, hfz34_2, hfz34_3, hfz34_4, hfz34_5, hfz34_6, hfz34_7, hfz34_8, hfz34_9, hfz34_10, hfz34_11, hfz34_12, hfz34_13, hfz34_14, hfz34_15⟩ := frozen16 BK101.out
          go_wp2_with (first | ((with_reducible refine gate_st (ty := 24) rfl ?_); (try (refine gate_guard (by rfl) ?_; dsimp only)); refine store16 rfl rfl rfl rfl rfl (by repeat (first | (with_reducible refine blk_drewN ?_ _) | (with_reducible refine blk_drew ?_) | (with_reducible refine blk_alloc ?_ _) | (with_reducible refine blk_far ?_ (by assumption) _) | (first | with_reducible exact BK101.out))) (by kernel_rfl) rfl ?_) | ((with_reducible refine gate_ld (ty := 24) rfl ?_); (try (refine gate_guard (by rfl) ?_; dsimp only)); refine wpList_load_row rfl _ _ rfl _ rfl _ _ _ _ (by repeat (first | ((with_reducible refine gate_row16 ?_); with_reducible exact put16_0_16 (by repeat (first | (with_reducible refine blk_drewN ?_ _) | (with_reducible refine blk_drew ?_) | (with_reducible refine blk_alloc ?_ _) | (first | with_reducible exact BK101.out)))) | (with_reducible refine blk_far ?_ (by assumption) _) | (with_reducible refine blk_set ?_ _ _) | (with_reducible refine blk_drewN ?_ _) | (with_reducible refine blk_drew ?_) | (with_reducible refine blk_alloc ?_ _) | (first | with_reducible exact BK101.out))) Tryd.underlying24 rfl (by kernel_rfl) ?_; (try simp only [List.setIfInBounds_toArray, List.set_cons_zero, List.set_cons_succ])) | ((with_reducible refine gate_eql (ty := 24) rfl ?_); (try (refine gate_guard (by rfl) ?_; dsimp only)); refine eql24 rfl rfl rfl rfl true (by first | exact c26b0 | (simpa using c26b0)) ?_) | ((with_reducible refine gate_eql (ty := 24) rfl ?_); (try (refine gate_guard (by rfl) ?_; dsimp only)); refine eql24 rfl rfl rfl rfl false (by first | exact c26b0 | (simpa using c26b0)) ?_) | go_in)
          all_goals go_ret
          all_goals exact ⟨by first | rfl | (simp [errW_none, errW_some] <;> rfl) | (simp [*, errW_none, errW_some] <;> rfl) | (simp [*, IntKind.wrap_u32]; done) | (simp_all [IntKind.wrap_u32]; done), by repeat (first | (with_reducible first | exact HB.out | apply below_alloc | apply pw_below_drewN | apply below_drew1 | refine below_set ?_ GE101.out) | exact HB.out)⟩
         ·replace c33 := Bool.eq_false_iff.mpr c33
          subst c33
          have H1 : (if a0_4 = true then (some 91) else (if a0_5 = true then (some 91) else (if a0_7 = 0 then (some 0) else (some 91)))) = some r := by rw [if_neg (show ¬ (false = true) by decide)] at H; exact H
          clear H
          have H := H1
          clear H1
          by_cases c35 : a0_4 = true
          ·subst c35
           have H1 : (some 91) = some r := by rw [if_pos rfl] at H; exact H
           clear H
           have H := H1
           clear H1
           obtain rfl := Option.some.inj H
           obtain ⟨hcz36_0, hcz36_1, hcz36_2, hcz36_3, hcz36_4, hcz36_5, hcz36_6, hcz36_7, hcz36_8, hcz36_9, hcz36_10, hcz36_11, hcz36_12, hcz36_13, hcz36_14, hcz36_15⟩ := cells16 BK101.out
           obtain ⟨hfz36_0, hfz36_1, hfz36_2, hfz36_3, hfz36_4, hfz36_5, hfz36_6, hfz36_7, hfz36_8, hfz36_9, hfz36_10, hfz36_11, hfz36_12, hfz36_13, hfz36_14, hfz36_15⟩ := frozen16 BK101.out
           go_wp2_with (first | ((with_reducible refine gate_st (ty := 24) rfl ?_); (try (refine gate_guard (by rfl) ?_; dsimp only)); refine store16 rfl rfl rfl rfl rfl (by repeat (first | (with_reducible refine blk_drewN ?_ _) | (with_reducible refine blk_drew ?_) | (with_reducible refine blk_alloc ?_ _) | (with_reducible refine blk_far ?_ (by assumption) _) | (first | with_reducible exact BK101.out))) (by kernel_rfl) rfl ?_) | ((with_reducible refine gate_ld (ty := 24) rfl ?_); (try (refine gate_guard (by rfl) ?_; dsimp only)); refine wpList_load_row rfl _ _ rfl _ rfl _ _ _ _ (by repeat (first | ((with_reducible refine gate_row16 ?_); with_reducible exact put16_0_16 (by repeat (first | (with_reducible refine blk_drewN ?_ _) | (with_reducible refine blk_drew ?_) | (with_reducible refine blk_alloc ?_ _) | (first | with_reducible exact BK101.out)))) | (with_reducible refine blk_far ?_ (by assumption) _) | (with_reducible refine blk_set ?_ _ _) | (with_reducible refine blk_drewN ?_ _) | (with_reducible refine blk_drew ?_) | (with_reducible refine blk_alloc ?_ _) | (first | with_reducible exact BK101.out))) Tryd.underlying24 rfl (by kernel_rfl) ?_; (try simp only [List.setIfInBounds_toArray, List.set_cons_zero, List.set_cons_succ])) | ((with_reducible refine gate_eql (ty := 24) rfl ?_); (try (refine gate_guard (by rfl) ?_; dsimp only)); refine eql24 rfl rfl rfl rfl true (by first | exact c26b0 | (simpa using c26b0)) ?_) | ((with_reducible refine gate_eql (ty := 24) rfl ?_); (try (refine gate_guard (by rfl) ?_; dsimp only)); refine eql24 rfl rfl rfl rfl false (by first | exact c26b0 | (simpa using c26b0)) ?_) | go_in)
           all_goals go_ret
           all_goals exact ⟨by first | rfl | (simp [errW_none, errW_some] <;> rfl) | (simp [*, errW_none, errW_some] <;> rfl) | (simp [*, IntKind.wrap_u32]; done) | (simp_all [IntKind.wrap_u32]; done), by repeat (first | (with_reducible first | exact HB.out | apply below_alloc | apply pw_below_drewN | apply below_drew1 | refine below_set ?_ GE101.out) | exact HB.out)⟩
          ·replace c35 := Bool.eq_false_iff.mpr c35
           subst c35
           have H1 : (if a0_5 = true then (some 91) else (if a0_7 = 0 then (some 0) else (some 91))) = some r := by rw [if_neg (show ¬ (false = true) by decide)] at H; exact H
           clear H
           have H := H1
           clear H1
           by_cases c37 : a0_5 = true
           ·subst c37
            have H1 : (some 91) = some r := by rw [if_pos rfl] at H; exact H
            clear H
            have H := H1
            clear H1
            obtain rfl := Option.some.inj H
            obtain ⟨hcz38_0, hcz38_1, hcz38_2, hcz38_3, hcz38_4, hcz38_5, hcz38_6, hcz38_7, hcz38_8, hcz38_9, hcz38_10, hcz38_11, hcz38_12, hcz38_13, hcz38_14, hcz38_15⟩ := cells16 BK101.out
            obtain ⟨hfz38_0, hfz38_1, hfz38_2, hfz38_3, hfz38_4, hfz38_5, hfz38_6, hfz38_7, hfz38_8, hfz38_9, hfz38_10, hfz38_11, hfz38_12, hfz38_13, hfz38_14, hfz38_15⟩ := frozen16 BK101.out
            go_wp2_with (first | ((with_reducible refine gate_st (ty := 24) rfl ?_); (try (refine gate_guard (by rfl) ?_; dsimp only)); refine store16 rfl rfl rfl rfl rfl (by repeat (first | (with_reducible refine blk_drewN ?_ _) | (with_reducible refine blk_drew ?_) | (with_reducible refine blk_alloc ?_ _) | (with_reducible refine blk_far ?_ (by assumption) _) | (first | with_reducible exact BK101.out))) (by kernel_rfl) rfl ?_) | ((with_reducible refine gate_ld (ty := 24) rfl ?_); (try (refine gate_guard (by rfl) ?_; dsimp only)); refine wpList_load_row rfl _ _ rfl _ rfl _ _ _ _ (by repeat (first | ((with_reducible refine gate_row16 ?_); with_reducible exact put16_0_16 (by repeat (first | (with_reducible refine blk_drewN ?_ _) | (with_reducible refine blk_drew ?_) | (with_reducible refine blk_alloc ?_ _) | (first | with_reducible exact BK101.out)))) | (with_reducible refine blk_far ?_ (by assumption) _) | (with_reducible refine blk_set ?_ _ _) | (with_reducible refine blk_drewN ?_ _) | (with_reducible refine blk_drew ?_) | (with_reducible refine blk_alloc ?_ _) | (first | with_reducible exact BK101.out))) Tryd.underlying24 rfl (by kernel_rfl) ?_; (try simp only [List.setIfInBounds_toArray, List.set_cons_zero, List.set_cons_succ])) | ((with_reducible refine gate_eql (ty := 24) rfl ?_); (try (refine gate_guard (by rfl) ?_; dsimp only)); refine eql24 rfl rfl rfl rfl true (by first | exact c26b0 | (simpa using c26b0)) ?_) | ((with_reducible refine gate_eql (ty := 24) rfl ?_); (try (refine gate_guard (by rfl) ?_; dsimp only)); refine eql24 rfl rfl rfl rfl false (by first | exact c26b0 | (simpa using c26b0)) ?_) | go_in)
            all_goals go_ret
            all_goals exact ⟨by first | rfl | (simp [errW_none, errW_some] <;> rfl) | (simp [*, errW_none, errW_some] <;> rfl) | (simp [*, IntKind.wrap_u32]; done) | (simp_all [IntKind.wrap_u32]; done), by repeat (first | (with_reducible first | exact HB.out | apply below_alloc | apply pw_below_drewN | apply below_drew1 | refine below_set ?_ GE101.out) | exact HB.out)⟩
           ·replace c37 := Bool.eq_false_iff.mpr c37
            subst c37
            have H1 : (if a0_7 = 0 then (some 0) else (some 91)) = some r := by rw [if_neg (show ¬ (false = true) by decide)] at H; exact H
            clear H
            have H := H1
            clear H1
            by_cases c39 : a0_7 = 0
            ·rw [if_pos c39] at H
             have c39b0 : (a0_7 == 0) = true := beq_iff_eq.mpr c39
             have c39b1 : (a0_7 != 0) = false := bne_eq_false_iff_eq.mpr c39
             clear c39
             obtain rfl := Option.some.inj H
             obtain ⟨hcz40_0, hcz40_1, hcz40_2, hcz40_3, hcz40_4, hcz40_5, hcz40_6, hcz40_7, hcz40_8, hcz40_9, hcz40_10, hcz40_11, hcz40_12, hcz40_13, hcz40_14, hcz40_15⟩ := cells16 BK101.out
             obtain ⟨hfz40_0, hfz40_1, hfz40_2, hfz40_3, hfz40_4, hfz40_5, hfz40_6, hfz40_7, hfz40_8, hfz40_9, hfz40_10, hfz40_11, hfz40_12, hfz40_13, hfz40_14, hfz40_15⟩ := frozen16 BK101.out
             go_wp2_with (first | ((with_reducible refine gate_st (ty := 24) rfl ?_); (try (refine gate_guard (by rfl) ?_; dsimp only)); refine store16 rfl rfl rfl rfl rfl (by repeat (first | (with_reducible refine blk_drewN ?_ _) | (with_reducible refine blk_drew ?_) | (with_reducible refine blk_alloc ?_ _) | (with_reducible refine blk_far ?_ (by assumption) _) | (first | with_reducible exact BK101.out))) (by kernel_rfl) rfl ?_) | ((with_reducible refine gate_ld (ty := 24) rfl ?_); (try (refine gate_guard (by rfl) ?_; dsimp only)); refine wpList_load_row rfl _ _ rfl _ rfl _ _ _ _ (by repeat (first | ((with_reducible refine gate_row16 ?_); with_reducible exact put16_0_16 (by repeat (first | (with_reducible refine blk_drewN ?_ _) | (with_reducible refine blk_drew ?_) | (with_reducible refine blk_alloc ?_ _) | (first | with_reducible exact BK101.out)))) | (with_reducible refine blk_far ?_ (by assumption) _) | (with_reducible refine blk_set ?_ _ _) | (with_reducible refine blk_drewN ?_ _) | (with_reducible refine blk_drew ?_) | (with_reducible refine blk_alloc ?_ _) | (first | with_reducible exact BK101.out))) Tryd.underlying24 rfl (by kernel_rfl) ?_; (try simp only [List.setIfInBounds_toArray, List.set_cons_zero, List.set_cons_succ])) | ((with_reducible refine gate_eql (ty := 24) rfl ?_); (try (refine gate_guard (by rfl) ?_; dsimp only)); refine eql24 rfl rfl rfl rfl true (by first | exact c26b0 | (simpa using c26b0)) ?_) | ((with_reducible refine gate_eql (ty := 24) rfl ?_); (try (refine gate_guard (by rfl) ?_; dsimp only)); refine eql24 rfl rfl rfl rfl false (by first | exact c26b0 | (simpa using c26b0)) ?_) | go_in)
             all_goals go_ret
             all_goals exact ⟨by first | rfl | (simp [errW_none, errW_some] <;> rfl) | (simp [*, errW_none, errW_some] <;> rfl) | (simp [*, IntKind.wrap_u32]; done) | (simp_all [IntKind.wrap_u32]; done), by repeat (first | (with_reducible first | exact HB.out | apply below_alloc | apply pw_below_drewN | apply below_drew1 | refine below_set ?_ GE101.out) | exact HB.out)⟩
            ·rw [if_neg c39] at H
             have c39b0 : (a0_7 == 0) = false := beq_eq_false_iff_ne.mpr c39
             have c39b1 : (a0_7 != 0) = true := bne_iff_ne.mpr c39
             obtain rfl := Option.some.inj H
             obtain ⟨hcz41_0, hcz41_1, hcz41_2, hcz41_3, hcz41_4, hcz41_5, hcz41_6, hcz41_7, hcz41_8, hcz41_9, hcz41_10, hcz41_11, hcz41_12, hcz41_13, hcz41_14, hcz41_15⟩ := cells16 BK101.out
             obtain ⟨hfz41_0, hfz41_1, hfz41_2, hfz41_3, hfz41_4, hfz41_5, hfz41_6, hfz41_7, hfz41_8, hfz41_9, hfz41_10, hfz41_11, hfz41_12, hfz41_13, hfz41_14, hfz41_15⟩ := frozen16 BK101.out
             go_wp2_with (first | ((with_reducible refine gate_st (ty := 24) rfl ?_); (try (refine gate_guard (by rfl) ?_; dsimp only)); refine store16 rfl rfl rfl rfl rfl (by repeat (first | (with_reducible refine blk_drewN ?_ _) | (with_reducible refine blk_drew ?_) | (with_reducible refine blk_alloc ?_ _) | (with_reducible refine blk_far ?_ (by assumption) _) | (first | with_reducible exact BK101.out))) (by kernel_rfl) rfl ?_) | ((with_reducible refine gate_ld (ty := 24) rfl ?_); (try (refine gate_guard (by rfl) ?_; dsimp only)); refine wpList_load_row rfl _ _ rfl _ rfl _ _ _ _ (by repeat (first | ((with_reducible refine gate_row16 ?_); with_reducible exact put16_0_16 (by repeat (first | (with_reducible refine blk_drewN ?_ _) | (with_reducible refine blk_drew ?_) | (with_reducible refine blk_alloc ?_ _) | (first | with_reducible exact BK101.out)))) | (with_reducible refine blk_far ?_ (by assumption) _) | (with_reducible refine blk_set ?_ _ _) | (with_reducible refine blk_drewN ?_ _) | (with_reducible refine blk_drew ?_) | (with_reducible refine blk_alloc ?_ _) | (first | with_reducible exact BK101.out))) Tryd.underlying24 rfl (by kernel_rfl) ?_; (try simp only [List.setIfInBounds_toArray, List.set_cons_zero, List.set_cons_succ])) | ((with_reducible refine gate_eql (ty := 24) rfl ?_); (try (refine gate_guard (by rfl) ?_; dsimp only)); refine eql24 rfl rfl rfl rfl true (by first | exact c26b0 | (simpa using c26b0)) ?_) | ((with_reducible refine gate_eql (ty := 24) rfl ?_); (try (refine gate_guard (by rfl) ?_; dsimp only)); refine eql24 rfl rfl rfl rfl false (by first | exact c26b0 | (simpa using c26b0)) ?_) | go_in)
             all_goals go_ret
             all_goals exact ⟨by first | rfl | (simp [errW_none, errW_some] <;> rfl) | (simp [*, errW_none, errW_some] <;> rfl) | (simp [*, IntKind.wrap_u32]; done) | (simp_all [IntKind.wrap_u32]; done), by repeat (first | (with_reducible first | exact HB.out | apply below_alloc | apply pw_below_drewN | apply below_drew1 | refine below_set ?_ GE101.out) | exact HB.out)⟩
       ·replace c30 := Bool.eq_false_iff.mpr c30
        subst c30
        have H1 : (some 91) = some r := by rw [if_neg (show ¬ (false = true) by decide)] at H; exact H
        clear H
        have H := H1
        clear H1
        obtain rfl := Option.some.inj H
        obtain ⟨hcz42_0, hcz42_1, hcz42_2, hcz42_3, hcz42_4, hcz42_5, hcz42_6, hcz42_7, hcz42_8, hcz42_9, hcz42_10, hcz42_11, hcz42_12, hcz42_13, hcz42_14, hcz42_15⟩ := cells16 BK101.out
        obtain ⟨hfz42_0, hfz42_1, hfz42_2, hfz42_3, hfz42_4, hfz42_5, hfz42_6, hfz42_7, hfz42_8, hfz42_9, hfz42_10, hfz42_11, hfz42_12, hfz42_13, hfz42_14, hfz42_15⟩ := frozen16 BK101.out
        go_wp2_with (first | ((with_reducible refine gate_st (ty := 24) rfl ?_); (try (refine gate_guard (by rfl) ?_; dsimp only)); refine store16 rfl rfl rfl rfl rfl (by repeat (first | (with_reducible refine blk_drewN ?_ _) | (with_reducible refine blk_drew ?_) | (with_reducible refine blk_alloc ?_ _) | (with_reducible refine blk_far ?_ (by assumption) _) | (first | with_reducible exact BK101.out))) (by kernel_rfl) rfl ?_) | ((with_reducible refine gate_ld (ty := 24) rfl ?_); (try (refine gate_guard (by rfl) ?_; dsimp only)); refine wpList_load_row rfl _ _ rfl _ rfl _ _ _ _ (by repeat (first | ((with_reducible refine gate_row16 ?_); with_reducible exact put16_0_16 (by repeat (first | (with_reducible refine blk_drewN ?_ _) | (with_reducible refine blk_drew ?_) | (with_reducible refine blk_alloc ?_ _) | (first | with_reducible exact BK101.out)))) | (with_reducible refine blk_far ?_ (by assumption) _) | (with_reducible refine blk_set ?_ _ _) | (with_reducible refine blk_drewN ?_ _) | (with_reducible refine blk_drew ?_) | (with_reducible refine blk_alloc ?_ _) | (first | with_reducible exact BK101.out))) Tryd.underlying24 rfl (by kernel_rfl) ?_; (try simp only [List.setIfInBounds_toArray, List.set_cons_zero, List.set_cons_succ])) | ((with_reducible refine gate_eql (ty := 24) rfl ?_); (try (refine gate_guard (by rfl) ?_; dsimp only)); refine eql24 rfl rfl rfl rfl true (by first | exact c26b0 | (simpa using c26b0)) ?_) | ((with_reducible refine gate_eql (ty := 24) rfl ?_); (try (refine gate_guard (by rfl) ?_; dsimp only)); refine eql24 rfl rfl rfl rfl false (by first | exact c26b0 | (simpa using c26b0)) ?_) | go_in)
        all_goals go_ret
        all_goals exact ⟨by first | rfl | (simp [errW_none, errW_some] <;> rfl) | (simp [*, errW_none, errW_some] <;> rfl) | (simp [*, IntKind.wrap_u32]; done) | (simp_all [IntKind.wrap_u32]; done), by repeat (first | (with_reducible first | exact HB.out | apply below_alloc | apply pw_below_drewN | apply below_drew1 | refine below_set ?_ GE101.out) | exact HB.out)⟩
      ·rw [if_neg c29] at H
       have c29b0 : (a0_0 == 0) = false := beq_eq_false_iff_ne.mpr c29
       have c29b1 : (a0_0 != 0) = true := bne_iff_ne.mpr c29
       by_cases c43 : a0_0 = 2
       ·rw [if_pos c43] at H
        have c43b0 : (a0_0 == 2) = true := beq_iff_eq.mpr c43
        have c43b1 : (a0_0 != 2) = false := bne_eq_false_iff_eq.mpr c43
        clear c43
        by_cases c44 : x4_14 = true
        ·subst c44
         have H1 : (some 0) = some r := by rw [if_pos rfl] at H; exact H
         clear H
         have H := H1
         clear H1
         obtain rfl := Option.some.inj H
         obtain ⟨hcz45_0, hcz45_1, hcz45_2, hcz45_3, hcz45_4, hcz45_5, hcz45_6, hcz45_7, hcz45_8, hcz45_9, hcz45_10, hcz45_11, hcz45_12, hcz45_13, hcz45_14, hcz45_15⟩ := cells16 BK101.out
         obtain ⟨hfz45_0, hfz45_1, hfz45_2, hfz45_3, hfz45_4, hfz45_5, hfz45_6, hfz45_7, hfz45_8, hfz45_9, hfz45_10, hfz45_11, hfz45_12, hfz45_13, hfz45_14, hfz45_15⟩ := frozen16 BK101.out
         go_wp2_with (first | ((with_reducible refine gate_st (ty := 24) rfl ?_); (try (refine gate_guard (by rfl) ?_; dsimp only)); refine store16 rfl rfl rfl rfl rfl (by repeat (first | (with_reducible refine blk_drewN ?_ _) | (with_reducible refine blk_drew ?_) | (with_reducible refine blk_alloc ?_ _) | (with_reducible refine blk_far ?_ (by assumption) _) | (first | with_reducible exact BK101.out))) (by kernel_rfl) rfl ?_) | ((with_reducible refine gate_ld (ty := 24) rfl ?_); (try (refine gate_guard (by rfl) ?_; dsimp only)); refine wpList_load_row rfl _ _ rfl _ rfl _ _ _ _ (by repeat (first | ((with_reducible refine gate_row16 ?_); with_reducible exact put16_0_16 (by repeat (first | (with_reducible refine blk_drewN ?_ _) | (with_reducible refine blk_drew ?_) | (with_reducible refine blk_alloc ?_ _) | (first | with_reducible exact BK101.out)))) | (with_reducible refine blk_far ?_ (by assumption) _) | (with_reducible refine blk_set ?_ _ _) | (with_reducible refine blk_drewN ?_ _) | (with_reducible refine blk_drew ?_) | (with_reducible refine blk_alloc ?_ _) | (first | with_reducible exact BK101.out))) Tryd.underlying24 rfl (by kernel_rfl) ?_; (try simp only [List.setIfInBounds_toArray, List.set_cons_zero, List.set_cons_succ])) | ((with_reducible refine gate_eql (ty := 24) rfl ?_); (try (refine gate_guard (by rfl) ?_; dsimp only)); refine eql24 rfl rfl rfl rfl true (by first | exact c26b0 | (simpa using c26b0)) ?_) | ((with_reducible refine gate_eql (ty := 24) rfl ?_); (try (refine gate_guard (by rfl) ?_; dsimp only)); refine eql24 rfl rfl rfl rfl false (by first | exact c26b0 | (simpa using c26b0)) ?_) | go_in)
         all_goals go_ret
         all_goals exact ⟨by first | rfl | (simp [errW_none, errW_some] <;> rfl) | (simp [*, errW_none, errW_some] <;> rfl) | (simp [*, IntKind.wrap_u32]; done) | (simp_all [IntKind.wrap_u32]; done), by repeat (first | (with_reducible first | exact HB.out | apply below_alloc | apply pw_below_drewN | apply below_drew1 | refine below_set ?_ GE101.out) | exact HB.out)⟩
        ·replace c44 := Bool.eq_false_iff.mpr c44
         subst c44
         have H1 : (some 91) = some r := by rw [if_neg (show ¬ (false = true) by decide)] at H; exact H
         clear H
         have H := H1
         clear H1
         obtain rfl := Option.some.inj H
         obtain ⟨hcz46_0, hcz46_1, hcz46_2, hcz46_3, hcz46_4, hcz46_5, hcz46_6, hcz46_7, hcz46_8, hcz46_9, hcz46_10, hcz46_11, hcz46_12, hcz46_13, hcz46_14, hcz46_15⟩ := cells16 BK101.out
         obtain ⟨hfz46_0, hfz46_1, hfz46_2, hfz46_3, hfz46_4, hfz46_5, hfz46_6, hfz46_7, hfz46_8, hfz46_9, hfz46_10, hfz46_11, hfz46_12, hfz46_13, hfz46_14, hfz46_15⟩ := frozen16 BK101.out
         go_wp2_with (first | ((with_reducible refine gate_st (ty := 24) rfl ?_); (try (refine gate_guard (by rfl) ?_; dsimp only)); refine store16 rfl rfl rfl rfl rfl (by repeat (first | (with_reducible refine blk_drewN ?_ _) | (with_reducible refine blk_drew ?_) | (with_reducible refine blk_alloc ?_ _) | (with_reducible refine blk_far ?_ (by assumption) _) | (first | with_reducible exact BK101.out))) (by kernel_rfl) rfl ?_) | ((with_reducible refine gate_ld (ty := 24) rfl ?_); (try (refine gate_guard (by rfl) ?_; dsimp only)); refine wpList_load_row rfl _ _ rfl _ rfl _ _ _ _ (by repeat (first | ((with_reducible refine gate_row16 ?_); with_reducible exact put16_0_16 (by repeat (first | (with_reducible refine blk_drewN ?_ _) | (with_reducible refine blk_drew ?_) | (with_reducible refine blk_alloc ?_ _) | (first | with_reducible exact BK101.out)))) | (with_reducible refine blk_far ?_ (by assumption) _) | (with_reducible refine blk_set ?_ _ _) | (with_reducible refine blk_drewN ?_ _) | (with_reducible refine blk_drew ?_) | (with_reducible refine blk_alloc ?_ _) | (first | with_reducible exact BK101.out))) Tryd.underlying24 rfl (by kernel_rfl) ?_; (try simp only [List.setIfInBounds_toArray, List.set_cons_zero, List.set_cons_succ])) | ((with_reducible refine gate_eql (ty := 24) rfl ?_); (try (refine gate_guard (by rfl) ?_; dsimp only)); refine eql24 rfl rfl rfl rfl true (by first | exact c26b0 | (simpa using c26b0)) ?_) | ((with_reducible refine gate_eql (ty := 24) rfl ?_); (try (refine gate_guard (by rfl) ?_; dsimp only)); refine eql24 rfl rfl rfl rfl false (by first | exact c26b0 | (simpa using c26b0)) ?_) | go_in)
         all_goals go_ret
         all_goals exact ⟨by first | rfl | (simp [errW_none, errW_some] <;> rfl) | (simp [*, errW_none, errW_some] <;> rfl) | (simp [*, IntKind.wrap_u32]; done) | (simp_all [IntKind.wrap_u32]; done), by repeat (first | (with_reducible first | exact HB.out | apply below_alloc | apply pw_below_drewN | apply below_drew1 | refine below_set ?_ GE101.out) | exact HB.out)⟩
       ·rw [if_neg c43] at H
        have c43b0 : (a0_0 == 2) = false := beq_eq_false_iff_ne.mpr c43
        have c43b1 : (a0_0 != 2) = true := bne_iff_ne.mpr c43
        obtain rfl := Option.some.inj H
        obtain ⟨hcz47_0, hcz47_1, hcz47_2, hcz47_3, hcz47_4, hcz47_5, hcz47_6, hcz47_7, hcz47_8, hcz47_9, hcz47_10, hcz47_11, hcz47_12, hcz47_13, hcz47_14, hcz47_15⟩ := cells16 BK101.out
        obtain ⟨hfz47_0, hfz47_1, hfz47_2, hfz47_3, hfz47_4, hfz47_5, hfz47_6, hfz47_7, hfz47_8, hfz47_9, hfz47_10, hfz47_11, hfz47_12, hfz47_13, hfz47_14, hfz47_15⟩ := frozen16 BK101.out
        go_wp2_with (first | ((with_reducible refine gate_st (ty := 24) rfl ?_); (try (refine gate_guard (by rfl) ?_; dsimp only)); refine store16 rfl rfl rfl rfl rfl (by repeat (first | (with_reducible refine blk_drewN ?_ _) | (with_reducible refine blk_drew ?_) | (with_reducible refine blk_alloc ?_ _) | (with_reducible refine blk_far ?_ (by assumption) _) | (first | with_reducible exact BK101.out))) (by kernel_rfl) rfl ?_) | ((with_reducible refine gate_ld (ty := 24) rfl ?_); (try (refine gate_guard (by rfl) ?_; dsimp only)); refine wpList_load_row rfl _ _ rfl _ rfl _ _ _ _ (by repeat (first | ((with_reducible refine gate_row16 ?_); with_reducible exact put16_0_16 (by repeat (first | (with_reducible refine blk_drewN ?_ _) | (with_reducible refine blk_drew ?_) | (with_reducible refine blk_alloc ?_ _) | (first | with_reducible exact BK101.out)))) | (with_reducible refine blk_far ?_ (by assumption) _) | (with_reducible refine blk_set ?_ _ _) | (with_reducible refine blk_drewN ?_ _) | (with_reducible refine blk_drew ?_) | (with_reducible refine blk_alloc ?_ _) | (first | with_reducible exact BK101.out))) Tryd.underlying24 rfl (by kernel_rfl) ?_; (try simp only [List.setIfInBounds_toArray, List.set_cons_zero, List.set_cons_succ])) | ((with_reducible refine gate_eql (ty := 24) rfl ?_); (try (refine gate_guard (by rfl) ?_; dsimp only)); refine eql24 rfl rfl rfl rfl true (by first | exact c26b0 | (simpa using c26b0)) ?_) | ((with_reducible refine gate_eql (ty := 24) rfl ?_); (try (refine gate_guard (by rfl) ?_; dsimp only)); refine eql24 rfl rfl rfl rfl false (by first | exact c26b0 | (simpa using c26b0)) ?_) | go_in)
        all_goals go_ret
        all_goals exact ⟨by first | rfl | (simp [errW_none, errW_some] <;> rfl) | (simp [*, errW_none, errW_some] <;> rfl) | (simp [*, IntKind.wrap_u32]; done) | (simp_all [IntKind.wrap_u32]; done), by repeat (first | (with_reducible first | exact HB.out | apply below_alloc | apply pw_below_drewN | apply below_drew1 | refine below_set ?_ GE101.out) | exact HB.out)⟩

end Go.Proofs.YtbfjlhjfpmgplaaDoor.P
