-- squeezed
-- Written by wip/hprint.py (this session's program) through the kit's print program; hand contracts are marked 'by hand'.
import Derived.Test.YtbfjlhjfpmgplaaDoorRow
import Derived.Test.YtbfjlhjfpmgplaaDoorRowB
import Derived.Test.YtbfjlhjfpmgplaaDoorPx0
import Derived.Test.YtbfjlhjfpmgplaaDoorPx1
import Derived.Test.YtbfjlhjfpmgplaaDoorPx16
import Derived.Test.YtbfjlhjfpmgplaaDoorPx18
import Derived.Test.YtbfjlhjfpmgplaaDoorPx21
namespace Go.Proofs.YtbfjlhjfpmgplaaDoor.P
open Go.RowKit Go.Proofs.YtbfjlhjfpmgplaaDoorW.PrintWords Go.Proofs.YtbfjlhjfpmgplaaDoorW.PrintLast Go.Proofs.YtbfjlhjfpmgplaaDoorW.PrintMore
attribute [local go_sem] max2_int min2_int max_two min_two max_three min_three max_four min_four   -- for this text's walks alone
set_option linter.unusedVariables false
set_option linter.unusedSimpArgs false

attribute [local go_sem high] eqA24
/-! ### gangwaylaw09_BpduParses: function 4 -/
def gangwaylaw09_BpduParses.j0 : Nat → ByteArray → Option (Bool)
 | 0, _ => none
 | k + 1, x0 => (bpdu_Parse.f k x0).bind fun bt414 => ((gangwayref09_Parse.f k x0).bind fun bt432 => ((gangwaylaw09_fixed.f k).bind fun t450 => (if t450 = true then (if (bt414.1 == bt432.1 && (bt414.2.1 == bt432.2.1 && (bt414.2.2.1 == bt432.2.2.1 && (bt414.2.2.2.1 == bt432.2.2.2.1 && (bt414.2.2.2.2.1 == bt432.2.2.2.2.1 && (bt414.2.2.2.2.2.1 == bt432.2.2.2.2.2.1 && (bt414.2.2.2.2.2.2.1 == bt432.2.2.2.2.2.2.1 && (bt414.2.2.2.2.2.2.2.1 == bt432.2.2.2.2.2.2.2.1 && (bt414.2.2.2.2.2.2.2.2.1 == bt432.2.2.2.2.2.2.2.2.1 && (bt414.2.2.2.2.2.2.2.2.2.1 == bt432.2.2.2.2.2.2.2.2.2.1 && (bt414.2.2.2.2.2.2.2.2.2.2.1 == bt432.2.2.2.2.2.2.2.2.2.2.1 && (bt414.2.2.2.2.2.2.2.2.2.2.2.1 == bt432.2.2.2.2.2.2.2.2.2.2.2.1 && (bt414.2.2.2.2.2.2.2.2.2.2.2.2.1 == bt432.2.2.2.2.2.2.2.2.2.2.2.2.1 && (bt414.2.2.2.2.2.2.2.2.2.2.2.2.2.1 == bt432.2.2.2.2.2.2.2.2.2.2.2.2.2.1 && (bt414.2.2.2.2.2.2.2.2.2.2.2.2.2.2.1 == bt432.2.2.2.2.2.2.2.2.2.2.2.2.2.2.1 && (bt414.2.2.2.2.2.2.2.2.2.2.2.2.2.2.2.1 == bt432.2.2.2.2.2.2.2.2.2.2.2.2.2.2.2.1)))))))))))))))) = true then (some (bt414.2.2.2.2.2.2.2.2.2.2.2.2.2.2.2.2 == bt432.2.2.2.2.2.2.2.2.2.2.2.2.2.2.2.2)) else (none)) else (none))))
def gangwaylaw09_BpduParses.f (k : Nat) (a0 : ByteArray) : Option (Bool) := if 0 ≤ (mn (a0.size : Int) 200) then (if (mn (a0.size : Int) 200) ≤ (a0.size : Int) then (gangwaylaw09_BpduParses.j0 k (a0.extract 0 ((mn (a0.size : Int) 200) : Int).toNat)) else (none)) else (none)
theorem gangwaylaw09_BpduParses.mono_l : ∀ k, (∀ y0, LeO (gangwaylaw09_BpduParses.j0 k y0) (gangwaylaw09_BpduParses.j0 (k + 1) y0))
 | 0 => fun _ r h => by simp [gangwaylaw09_BpduParses.j0] at h
 | k + 1 => by
  have ih0 := gangwaylaw09_BpduParses.mono_l k
  ·intro y0
   unfold gangwaylaw09_BpduParses.j0
   repeat' first
   | (with_reducible exact ih0 _)
   | (with_reducible exact bpdu_Parse.mono _ _)
   | (with_reducible exact gangwaylaw09_fixed.mono _)
   | (with_reducible exact gangwayref09_Parse.mono _ _)
   | (with_reducible exact LeO.refl _)
   | (with_reducible exact LeO.none _)
   | (with_reducible refine LeO.ite ?_ ?_)
   | (with_reducible refine LeO.bind ?_ (fun _ => ?_))
   | exact ih0 _
   | exact bpdu_Parse.mono _ _
   | exact gangwaylaw09_fixed.mono _
   | exact gangwayref09_Parse.mono _ _
   | exact LeO.none _
   | refine LeO.ite ?_ ?_
   | refine LeO.bind ?_ (fun _ => ?_)
theorem gangwaylaw09_BpduParses.mono : ∀ a0 k, LeO (gangwaylaw09_BpduParses.f k a0) (gangwaylaw09_BpduParses.f (k + 1) a0) := by
 intro a0 k
 have ih0 := gangwaylaw09_BpduParses.mono_l k
 unfold gangwaylaw09_BpduParses.f
 repeat' first
   | (with_reducible exact ih0 _)
   | (with_reducible exact bpdu_Parse.mono _ _)
   | (with_reducible exact gangwaylaw09_fixed.mono _)
   | (with_reducible exact gangwayref09_Parse.mono _ _)
   | (with_reducible exact LeO.refl _)
   | (with_reducible exact LeO.none _)
   | (with_reducible refine LeO.ite ?_ ?_)
   | (with_reducible refine LeO.bind ?_ (fun _ => ?_))
   | exact ih0 _
   | exact bpdu_Parse.mono _ _
   | exact gangwaylaw09_fixed.mono _
   | exact gangwayref09_Parse.mono _ _
   | exact LeO.none _
   | refine LeO.ite ?_ ?_
   | refine LeO.bind ?_ (fun _ => ?_)
set_option maxHeartbeats 8000000 in
set_option maxRecDepth 100000 in
theorem gangwaylaw09_BpduParses.calls (k : Nat) (a0 : ByteArray) (r : Bool) (w : World) (h : gangwaylaw09_BpduParses.f k a0 = some r) :
  Calls Tryd.prog 4 #[.string a0] w fun e w' => e = .returned (.bool r) ∧ Below w.heap.size w w' := by
 have hu24 := Tryd.underlying24
 have HB := Aside0.mk (Below.refl w.heap.size w)
 have H : (if 0 ≤ (mn (a0.size : Int) 200) then (if (mn (a0.size : Int) 200) ≤ (a0.size : Int) then (gangwaylaw09_BpduParses.j0 k (a0.extract 0 ((mn (a0.size : Int) 200) : Int).toNat)) else (none)) else (none)) = some r := h
 clear h
 have HC2 := Aside0.mk H
 clear H
 go_enter Tryd.func4, Tryd.ntmps4
 go_upto_region 1 with (fail)
 go_cut [0] (fun v0 wc => ∃ (kq : Nat) (x0_1 : ByteArray), v0 = .string x0_1 ∧ Aside0 (gangwaylaw09_BpduParses.j0 kq x0_1 = some r) ∧ Aside0 (kq ≤ k) ∧ Aside0 (Below w.heap.size w wc))
 case first =>
  have H := HC2.out
  clear HC2
  obtain ⟨ji3, hji3⟩ : ∃ j_ : Int, (mn (a0.size : Int) 200) = j_ := ⟨_, rfl⟩
  replace H : (if 0 ≤ (ji3) then (if (ji3) ≤ (a0.size : Int) then (gangwaylaw09_BpduParses.j0 k (a0.extract 0 ((ji3) : Int).toNat)) else (none)) else (none)) = some r := by first | (rw [hji3] at H; exact H) | (simp only [hji3] at H ⊢; exact H)
  (try (have hji3h : ji3 ≤ 200 := by (rw [← hji3]; unfold mn; (repeat' split) <;> omega)))
  (try (have hji3g : ji3 ≤ 64 := by omega))
  (try (have hji3l : 0 ≤ ji3 := by (rw [← hji3]; unfold mn; (repeat' split) <;> omega)))
  (try (have hji3m : 0 ≤ ji3 := by omega))
  have hji3_ : (if 200 < (a0.size : Int) then 200 else (a0.size : Int)) = ji3 := hji3
  by_cases c4 : 0 ≤ (ji3)
  ·rw [if_pos c4] at H
   have c4b0 := eq_true c4
   have c4b1 : decide (0 ≤ (ji3)) = true := decide_eq_true c4
   clear c4
   by_cases c5 : (ji3) ≤ (a0.size : Int)
   ·rw [if_pos c5] at H
    have c5b0 := eq_true c5
    have c5b1 : decide ((ji3) ≤ (a0.size : Int)) = true := decide_eq_true c5
    clear c5
    have H' := Aside0.mk H
    clear H
    go_wp2_with (first | ((with_reducible refine gate_st (ty := 24) rfl ?_); (try (with_reducible refine gate_gd rfl ?_; refine gate_guard (by first | rfl | exact wanted_on rfl rfl rfl (by first | rfl | (simp [*]; done))) ?_; dsimp only)); refine storeC16 rfl rfl rfl rfl rfl (by repeat (first | (with_reducible apply blk_far; case hp => assumption) | (with_reducible apply blk_set) | (with_reducible refine blk_drewN ?_ _) | (with_reducible refine blk_drew ?_) | (with_reducible refine blk_alloc ?_ _) | (first | with_reducible exact BK431.out | with_reducible exact BK449.out))) (by first | (simp only [List.setIfInBounds_toArray, List.set_cons_zero, List.set_cons_succ] <;> rfl) | rfl) (by kernel_rfl) rfl ?_) | ((with_reducible refine gate_ld (ty := 24) rfl ?_); (try (with_reducible refine gate_gd rfl ?_; refine gate_guard (by first | rfl | exact wanted_on rfl rfl rfl (by first | rfl | (simp [*]; done))) ?_; dsimp only)); refine load_st rfl rfl rfl (by repeat (first | (with_reducible apply blk_far; case hp => assumption) | (with_reducible apply blk_set) | (with_reducible refine blk_drewN ?_ _) | (with_reducible refine blk_drew ?_) | (with_reducible refine blk_alloc ?_ _) | (first | with_reducible exact BK431.out | with_reducible exact BK449.out))) (by first | (simp only [List.setIfInBounds_toArray, List.set_cons_zero, List.set_cons_succ] <;> rfl) | rfl) Tryd.underlying24 rfl (by kernel_rfl) ?_; (try simp only [Act.put, List.setIfInBounds_toArray, List.set_cons_zero, List.set_cons_succ])) | ((with_reducible refine gate_eql (ty := 24) rfl ?_); (try (with_reducible refine gate_gd rfl ?_; refine gate_guard (by first | rfl | exact wanted_on rfl rfl rfl (by first | rfl | (simp [*]; done))) ?_; dsimp only)); refine eql24 rfl rfl rfl rfl true (by first | exact c10b0 | (simpa using c10b0)) ?_; (try simp only [Act.put, List.setIfInBounds_toArray, List.set_cons_zero, List.set_cons_succ])) | ((with_reducible refine gate_eql (ty := 24) rfl ?_); (try (with_reducible refine gate_gd rfl ?_; refine gate_guard (by first | rfl | exact wanted_on rfl rfl rfl (by first | rfl | (simp [*]; done))) ?_; dsimp only)); refine eql24 rfl rfl rfl rfl false (by first | exact c10b0 | (simpa using c10b0)) ?_; (try simp only [Act.put, List.setIfInBounds_toArray, List.set_cons_zero, List.set_cons_succ])) | go_in)
    go_meet
    case rel => exact ⟨_, (a0.extract 0 ((ji3) : Int).toNat), (by first | rfl | (simp; done) | (simp only [← hji3] <;> (first | rfl | simp)) | (simp [*]; done)), H', ⟨by first | omega | exact Nat.le_refl _⟩, ⟨by repeat (first | (with_reducible first | exact HB.out | apply below_alloc | apply pw_below_drewN | apply below_drew1) | exact HB.out)⟩⟩
   ·rw [if_neg c5] at H
    exact absurd H (by simp)
  ·rw [if_neg c4] at H
   exact absurd H (by simp)
 case rest =>
  clear HC2
  try clear p2
  try clear c4
  try clear c4b0
  try clear c4b1
  try clear c5
  try clear c5b0
  try clear c5b1
  obtain ⟨kq, x0_1, rfl, HA, HJ1, HB⟩ := hcut
  cases kq with
  | zero => exact absurd HA.out (by simp [gangwaylaw09_BpduParses.j0])
  | succ kj1 =>
   have H := HA.out
   clear HA
   simp only [gangwaylaw09_BpduParses.j0] at H
   replace H := Option.bind_eq_some_iff.mp H
   obtain ⟨⟨t414, t415, t416, t417, t418, t419, t420, t421, t422, t423, t424, t425, t426, t427, t428, t429, t430⟩, A60, H⟩ := H
   replace H : ((gangwayref09_Parse.f kj1 x0_1).bind fun bt432 => ((gangwaylaw09_fixed.f kj1).bind fun t450 => (if t450 = true then (if (t414 == bt432.1 && (t415 == bt432.2.1 && (t416 == bt432.2.2.1 && (t417 == bt432.2.2.2.1 && (t418 == bt432.2.2.2.2.1 && (t419 == bt432.2.2.2.2.2.1 && (t420 == bt432.2.2.2.2.2.2.1 && (t421 == bt432.2.2.2.2.2.2.2.1 && (t422 == bt432.2.2.2.2.2.2.2.2.1 && (t423 == bt432.2.2.2.2.2.2.2.2.2.1 && (t424 == bt432.2.2.2.2.2.2.2.2.2.2.1 && (t425 == bt432.2.2.2.2.2.2.2.2.2.2.2.1 && (t426 == bt432.2.2.2.2.2.2.2.2.2.2.2.2.1 && (t427 == bt432.2.2.2.2.2.2.2.2.2.2.2.2.2.1 && (t428 == bt432.2.2.2.2.2.2.2.2.2.2.2.2.2.2.1 && (t429 == bt432.2.2.2.2.2.2.2.2.2.2.2.2.2.2.2.1)))))))))))))))) = true then (some (t430 == bt432.2.2.2.2.2.2.2.2.2.2.2.2.2.2.2.2)) else (none)) else (none)))) = some r := H
   have A6 := Aside0.mk A60
   clear A60
   replace H := Option.bind_eq_some_iff.mp H
   obtain ⟨⟨t432, t433, t434, t435, t436, t437, t438, t439, t440, t441, t442, t443, t444, t445, t446, t447, t448⟩, A70, H⟩ := H
   replace H : ((gangwaylaw09_fixed.f kj1).bind fun t450 => (if t450 = true then (if (t414 == t432 && (t415 == t433 && (t416 == t434 && (t417 == t435 && (t418 == t436 && (t419 == t437 && (t420 == t438 && (t421 == t439 && (t422 == t440 && (t423 == t441 && (t424 == t442 && (t425 == t443 && (t426 == t444 && (t427 == t445 && (t428 == t446 && (t429 == t447)))))))))))))))) = true then (some (t430 == t448)) else (none)) else (none))) = some r := H
   have A7 := Aside0.mk A70
   clear A70
   replace H := Option.bind_eq_some_iff.mp H
   obtain ⟨t450, A80, H⟩ := H
   replace H : (if t450 = true then (if (t414 == t432 && (t415 == t433 && (t416 == t434 && (t417 == t435 && (t418 == t436 && (t419 == t437 && (t420 == t438 && (t421 == t439 && (t422 == t440 && (t423 == t441 && (t424 == t442 && (t425 == t443 && (t426 == t444 && (t427 == t445 && (t428 == t446 && (t429 == t447)))))))))))))))) = true then (some (t430 == t448)) else (none)) else (none)) = some r := H
   have A8 := Aside0.mk A80
   clear A80
   by_cases c9 : t450 = true
   ·subst c9
    have H1 : (if (t414 == t432 && (t415 == t433 && (t416 == t434 && (t417 == t435 && (t418 == t436 && (t419 == t437 && (t420 == t438 && (t421 == t439 && (t422 == t440 && (t423 == t441 && (t424 == t442 && (t425 == t443 && (t426 == t444 && (t427 == t445 && (t428 == t446 && (t429 == t447)))))))))))))))) = true then (some (t430 == t448)) else (none)) = some r := by rw [if_pos rfl] at H; exact H
    clear H
    have H := H1
    clear H1
    by_cases c10 : (t414 == t432 && (t415 == t433 && (t416 == t434 && (t417 == t435 && (t418 == t436 && (t419 == t437 && (t420 == t438 && (t421 == t439 && (t422 == t440 && (t423 == t441 && (t424 == t442 && (t425 == t443 && (t426 == t444 && (t427 == t445 && (t428 == t446 && (t429 == t447)))))))))))))))) = true
    ·rw [if_pos c10] at H
     have c10b0 : (t414 == t432 && (t415 == t433 && (t416 == t434 && (t417 == t435 && (t418 == t436 && (t419 == t437 && (t420 == t438 && (t421 == t439 && (t422 == t440 && (t423 == t441 && (t424 == t442 && (t425 == t443 && (t426 == t444 && (t427 == t445 && (t428 == t446 && (t429 == t447)))))))))))))))) = true := c10
     clear c10
     obtain rfl := Option.some.inj H
     go_wp2_with (first | ((with_reducible refine gate_st (ty := 24) rfl ?_); (try (with_reducible refine gate_gd rfl ?_; refine gate_guard (by first | rfl | exact wanted_on rfl rfl rfl (by first | rfl | (simp [*]; done))) ?_; dsimp only)); refine storeC16 rfl rfl rfl rfl rfl (by repeat (first | (with_reducible apply blk_far; case hp => assumption) | (with_reducible apply blk_set) | (with_reducible refine blk_drewN ?_ _) | (with_reducible refine blk_drew ?_) | (with_reducible refine blk_alloc ?_ _) | (first | with_reducible exact BK431.out | with_reducible exact BK449.out))) (by first | (simp only [List.setIfInBounds_toArray, List.set_cons_zero, List.set_cons_succ] <;> rfl) | rfl) (by kernel_rfl) rfl ?_) | ((with_reducible refine gate_ld (ty := 24) rfl ?_); (try (with_reducible refine gate_gd rfl ?_; refine gate_guard (by first | rfl | exact wanted_on rfl rfl rfl (by first | rfl | (simp [*]; done))) ?_; dsimp only)); refine load_st rfl rfl rfl (by repeat (first | (with_reducible apply blk_far; case hp => assumption) | (with_reducible apply blk_set) | (with_reducible refine blk_drewN ?_ _) | (with_reducible refine blk_drew ?_) | (with_reducible refine blk_alloc ?_ _) | (first | with_reducible exact BK431.out | with_reducible exact BK449.out))) (by first | (simp only [List.setIfInBounds_toArray, List.set_cons_zero, List.set_cons_succ] <;> rfl) | rfl) Tryd.underlying24 rfl (by kernel_rfl) ?_; (try simp only [Act.put, List.setIfInBounds_toArray, List.set_cons_zero, List.set_cons_succ])) | ((with_reducible refine gate_eql (ty := 24) rfl ?_); (try (with_reducible refine gate_gd rfl ?_; refine gate_guard (by first | rfl | exact wanted_on rfl rfl rfl (by first | rfl | (simp [*]; done))) ?_; dsimp only)); refine eql24 rfl rfl rfl rfl true (by first | exact c10b0 | (simpa using c10b0)) ?_; (try simp only [Act.put, List.setIfInBounds_toArray, List.set_cons_zero, List.set_cons_succ])) | ((with_reducible refine gate_eql (ty := 24) rfl ?_); (try (with_reducible refine gate_gd rfl ?_; refine gate_guard (by first | rfl | exact wanted_on rfl rfl rfl (by first | rfl | (simp [*]; done))) ?_; dsimp only)); refine eql24 rfl rfl rfl rfl false (by first | exact c10b0 | (simpa using c10b0)) ?_; (try simp only [Act.put, List.setIfInBounds_toArray, List.set_cons_zero, List.set_cons_succ])) | ((with_reducible refine gate_callee (f := 13) rfl ?_); refine goesL_ (some 14) rfl rfl Tryd.func13 (by kernel_rfl) rfl #[.string x0_1] rfl (by (try simp only [List.map_toArray, List.map_cons, List.map_nil]); first | done | rfl | (simp only [List.length_drop, List.length_take]; rfl)) ?_; (with_reducible refine (bpdu_Parse.calls kj1 x0_1 t414 t415 t416 t417 t418 t419 t420 t421 t422 t423 t424 t425 t426 t427 t428 t429 t430 _ A6.out).mono ?_); rintro e w11 ⟨rfl, hb⟩; refine ⟨_, rfl, ?_⟩; have n0_ := Aside0.mk (below_step (by repeat (first | (with_reducible first | exact HB.out | apply below_alloc | apply pw_below_drewN | apply below_drew1) | exact HB.out)) hb); clear HB; have HB := n0_; clear n0_; (try clear hb); (try clear hb2); (try clear hk); (try clear hi)) | ((with_reducible refine gate_dst (N := 3) rfl ?_); refine box_event ?hg (N := 3) ?hd (cs := #[.int .i64 0, .bool false, .bool false, .bool false, .bool false, .bool false, .bool false, .int .i64 0, .int .u64 0, .int .i64 0, .int .u64 0, .int .i64 0, .int .i64 0, .int .i64 0, .int .i64 0, .int .i64 0]) (t := 24) ?hr ?_; (case hd => rfl); (case hg => rfl); (case hr => first | (go_simp; done) | (go_simp; rfl)); intro gb431 hg w12 hbox hb; have n0_ := Aside0.mk (below_step (by repeat (first | (with_reducible first | exact HB.out | apply below_alloc | apply pw_below_drewN | apply below_drew1) | exact HB.out)) hb); have n1_ := Aside0.mk (hbox); have n2_ := Aside0.mk ((by rw [hg]; exact (below_size (by repeat (first | (with_reducible first | exact HB.out | apply below_alloc | apply pw_below_drewN | apply below_drew1) | exact HB.out))) : w.heap.size ≤ gb431)); have n3_ := Aside0.mk ((by rw [hg]; exact (below_size (by repeat (first | (with_reducible first | exact HB.out | apply below_alloc | apply pw_below_drewN | apply below_drew1) | exact HB.out))) : w.heap.size ≤ gb431)); clear HB; have HB := n0_; have BK431 := n1_; have GW431 := n2_; have GE431 := n3_; clear n0_ n1_ n2_ n3_; clear hb hbox hg; obtain ⟨hcz13_0, hcz13_1, hcz13_2, hcz13_3, hcz13_4, hcz13_5, hcz13_6, hcz13_7, hcz13_8, hcz13_9, hcz13_10, hcz13_11, hcz13_12, hcz13_13, hcz13_14, hcz13_15⟩ := cells16 BK431.out; obtain ⟨hfz13_0, hfz13_1, hfz13_2, hfz13_3, hfz13_4, hfz13_5, hfz13_6, hfz13_7, hfz13_8, hfz13_9, hfz13_10, hfz13_11, hfz13_12, hfz13_13, hfz13_14, hfz13_15⟩ := frozen16 BK431.out) | ((with_reducible refine gate_callee (f := 14) rfl ?_); refine goesL_ (some 19) rfl rfl Tryd.func14 (by kernel_rfl) rfl #[.string x0_1] rfl (by (try simp only [List.map_toArray, List.map_cons, List.map_nil]); first | done | rfl | (simp only [List.length_drop, List.length_take]; rfl)) ?_; (with_reducible refine (gangwayref09_Parse.calls kj1 x0_1 t432 t433 t434 t435 t436 t437 t438 t439 t440 t441 t442 t443 t444 t445 t446 t447 t448 _ A7.out).mono ?_); rintro e w14 ⟨rfl, hb⟩; refine ⟨_, rfl, ?_⟩; have n0_ := Aside0.mk (blk_below (g := gb431) (o := .cells #[.int .i64 t414, .bool t415, .bool t416, .bool t417, .bool t418, .bool t419, .bool t420, .int .i64 t421, .int .u64 t422, .int .i64 t423, .int .u64 t424, .int .i64 t425, .int .i64 t426, .int .i64 t427, .int .i64 t428, .int .i64 t429] 24 (0, 0)) (by (with_reducible repeat (first | refine blk_drewN ?_ _ | refine blk_drew ?_ | refine blk_alloc ?_ _)); exact put16_0_16 (by (with_reducible repeat (first | refine blk_drewN ?_ _ | refine blk_drew ?_ | refine blk_alloc ?_ _)); exact BK431.out)) hb); have n1_ := Aside0.mk (below_step (by repeat (first | (with_reducible first | exact HB.out | apply below_alloc | apply pw_below_drewN | apply below_drew1 | refine below_set ?_ GE431.out) | exact HB.out)) hb); clear BK431; clear HB; have BK431 := n0_; have HB := n1_; clear n0_ n1_; obtain ⟨hcy1_431_0, hcy1_431_1, hcy1_431_2, hcy1_431_3, hcy1_431_4, hcy1_431_5, hcy1_431_6, hcy1_431_7, hcy1_431_8, hcy1_431_9, hcy1_431_10, hcy1_431_11, hcy1_431_12, hcy1_431_13, hcy1_431_14, hcy1_431_15⟩ := cells16 BK431.out; (try clear hb); (try clear hb2); (try clear hk); (try clear hi)) | ((with_reducible refine gate_dst (N := 5) rfl ?_); refine box_event ?hg (N := 5) ?hd (cs := #[.int .i64 0, .bool false, .bool false, .bool false, .bool false, .bool false, .bool false, .int .i64 0, .int .u64 0, .int .i64 0, .int .u64 0, .int .i64 0, .int .i64 0, .int .i64 0, .int .i64 0, .int .i64 0]) (t := 24) ?hr ?_; (case hd => rfl); (case hg => rfl); (case hr => first | (go_simp; done) | (go_simp; rfl)); intro gb449 hg w15 hbox hb; have n0_ := Aside0.mk (blk_below (g := gb431) (by (with_reducible repeat (first | refine blk_drewN ?_ _ | refine blk_drew ?_ | refine blk_alloc ?_ _)); exact BK431.out) hb); have n1_ := Aside0.mk (below_step (by repeat (first | (with_reducible first | exact HB.out | apply below_alloc | apply pw_below_drewN | apply below_drew1 | refine below_set ?_ GE431.out) | exact HB.out)) hb); have n2_ := Aside0.mk (hbox); have n3_ := Aside0.mk ((by rw [hg]; exact (below_size (by repeat (first | (with_reducible first | exact HB.out | apply below_alloc | apply pw_below_drewN | apply below_drew1 | refine below_set ?_ GE431.out) | exact HB.out))) : w.heap.size ≤ gb449)); have n4_ := Aside0.mk ((by rw [hg]; exact (below_size (by repeat (first | (with_reducible first | exact HB.out | apply below_alloc | apply pw_below_drewN | apply below_drew1 | refine below_set ?_ GE431.out) | exact HB.out))) : w.heap.size ≤ gb449)); have n5_ := Aside0.mk ((by rw [hg]; exact Nat.ne_of_lt (blk_lt (g := gb431) (by (with_reducible repeat (first | refine blk_drewN ?_ _ | refine blk_drew ?_ | refine blk_alloc ?_ _)); exact BK431.out)) : gb431 ≠ gb449)); have n6_ := Aside0.mk ((by rw [hg]; exact Nat.ne_of_gt (blk_lt (g := gb431) (by (with_reducible repeat (first | refine blk_drewN ?_ _ | refine blk_drew ?_ | refine blk_alloc ?_ _)); exact BK431.out)) : gb449 ≠ gb431)); clear BK431; clear HB; have BK431 := n0_; have HB := n1_; have BK449 := n2_; have GW449 := n3_; have GE449 := n4_; have NB431_449 := n5_; have NB449_431 := n6_; clear n0_ n1_ n2_ n3_ n4_ n5_ n6_; obtain ⟨hcy2_431_0, hcy2_431_1, hcy2_431_2, hcy2_431_3, hcy2_431_4, hcy2_431_5, hcy2_431_6, hcy2_431_7, hcy2_431_8, hcy2_431_9, hcy2_431_10, hcy2_431_11, hcy2_431_12, hcy2_431_13, hcy2_431_14, hcy2_431_15⟩ := cells16 BK431.out; clear hb hbox hg; have hnb16 := NB449_431.out; have hnc16 := NB431_449.out; obtain ⟨hcz17_0, hcz17_1, hcz17_2, hcz17_3, hcz17_4, hcz17_5, hcz17_6, hcz17_7, hcz17_8, hcz17_9, hcz17_10, hcz17_11, hcz17_12, hcz17_13, hcz17_14, hcz17_15⟩ := cells16 BK449.out; obtain ⟨hfz17_0, hfz17_1, hfz17_2, hfz17_3, hfz17_4, hfz17_5, hfz17_6, hfz17_7, hfz17_8, hfz17_9, hfz17_10, hfz17_11, hfz17_12, hfz17_13, hfz17_14, hfz17_15⟩ := frozen16 BK449.out) | ((with_reducible refine gate_callee (f := 10) rfl ?_); refine goesL_ (some 22) rfl rfl Tryd.func10 (by kernel_rfl) rfl #[] rfl (by (try simp only [List.map_toArray, List.map_cons, List.map_nil]); first | done | rfl | (simp only [List.length_drop, List.length_take]; rfl)) ?_; (with_reducible refine (gangwaylaw09_fixed.calls kj1  true _ A8.out).mono ?_); rintro e w18 ⟨rfl, hb⟩; refine ⟨_, rfl, ?_⟩; have n0_ := Aside0.mk (blk_below (g := gb431) (o := .cells #[.int .i64 t414, .bool t415, .bool t416, .bool t417, .bool t418, .bool t419, .bool t420, .int .i64 t421, .int .u64 t422, .int .i64 t423, .int .u64 t424, .int .i64 t425, .int .i64 t426, .int .i64 t427, .int .i64 t428, .int .i64 t429] 24 (0, 0)) (by (with_reducible repeat (first | refine blk_drewN ?_ _ | refine blk_drew ?_ | refine blk_alloc ?_ _ | refine blk_far ?_ NB431_449.out _)); exact BK431.out) hb); have n1_ := Aside0.mk (blk_below (g := gb449) (o := .cells #[.int .i64 t432, .bool t433, .bool t434, .bool t435, .bool t436, .bool t437, .bool t438, .int .i64 t439, .int .u64 t440, .int .i64 t441, .int .u64 t442, .int .i64 t443, .int .i64 t444, .int .i64 t445, .int .i64 t446, .int .i64 t447] 24 (0, 0)) (by (with_reducible repeat (first | refine blk_drewN ?_ _ | refine blk_drew ?_ | refine blk_alloc ?_ _)); exact put16_0_16 (by (with_reducible repeat (first | refine blk_drewN ?_ _ | refine blk_drew ?_ | refine blk_alloc ?_ _)); exact BK449.out)) hb); have n2_ := Aside0.mk (below_step (by repeat (first | (with_reducible first | exact HB.out | apply below_alloc | apply pw_below_drewN | apply below_drew1 | refine below_set ?_ GE431.out | refine below_set ?_ GE449.out) | exact HB.out)) hb); clear BK431; clear BK449; clear HB; have BK431 := n0_; have BK449 := n1_; have HB := n2_; clear n0_ n1_ n2_; (try clear hb); (try clear hb2); (try clear hk); (try clear hi); obtain ⟨hcz19_0, hcz19_1, hcz19_2, hcz19_3, hcz19_4, hcz19_5, hcz19_6, hcz19_7, hcz19_8, hcz19_9, hcz19_10, hcz19_11, hcz19_12, hcz19_13, hcz19_14, hcz19_15⟩ := cells16 BK431.out; obtain ⟨hfz19_0, hfz19_1, hfz19_2, hfz19_3, hfz19_4, hfz19_5, hfz19_6, hfz19_7, hfz19_8, hfz19_9, hfz19_10, hfz19_11, hfz19_12, hfz19_13, hfz19_14, hfz19_15⟩ := frozen16 BK431.out; obtain ⟨hcz20_0, hcz20_1, hcz20_2, hcz20_3, hcz20_4, hcz20_5, hcz20_6, hcz20_7, hcz20_8, hcz20_9, hcz20_10, hcz20_11, hcz20_12, hcz20_13, hcz20_14, hcz20_15⟩ := cells16 BK449.out; obtain ⟨hfz20_0, hfz20_1, hfz20_2, hfz20_3, hfz20_4, hfz20_5, hfz20_6, hfz20_7, hfz20_8, hfz20_9, hfz20_10, hfz20_11, hfz20_12, hfz20_13, hfz20_14, hfz20_15⟩ := frozen16 BK449.out))
     go_ret
     exact ⟨by first | rfl | (simp [errW_none, errW_some] <;> rfl) | (simp [*, errW_none, errW_some] <;> rfl) | (simp [*, IntKind.wrap_u32]; done) | (simp_all [IntKind.wrap_u32]; done), by repeat (first | (with_reducible first | exact HB.out | apply below_alloc | apply pw_below_drewN | apply below_drew1 | refine below_set ?_ GE431.out | refine below_set ?_ GE449.out) | exact HB.out)⟩
    ·rw [if_neg c10] at H
     exact absurd H (by simp)
   ·replace c9 := Bool.eq_false_iff.mpr c9
    subst c9
    have H1 : (none) = some r := by rw [if_neg (show ¬ (false = true) by decide)] at H; exact H
    clear H
    have H := H1
    clear H1
    exact absurd H (by simp)

/-- THE ONE PURE STATEMENT of gangwaylaw09_BpduParses: yours. -/
def gangwaylaw09_BpduParses.Pure : Prop := ∀ (a0 : ByteArray), a0.size ≤ 140737488351232 → ∃ k, gangwaylaw09_BpduParses.f k a0 = some true
theorem gangwaylaw09_BpduParses.walk (P : gangwaylaw09_BpduParses.Pure) (a0 : ByteArray) (w : World) (w0 : a0.size ≤ 140737488351232) :
  Calls Tryd.prog 4 #[.string a0] w fun e w' => e = .returned (.bool true) ∧ Below w.heap.size w w' := by
 obtain ⟨k, h⟩ := P a0 w0
 refine (gangwaylaw09_BpduParses.calls k a0 true w h).mono ?_
 rintro e w' ⟨rfl, hd⟩
 exact ⟨rfl, hd⟩

/-! ### gangwayref02_Group: function 39 -/
def gangwayref02_Group.f (a0 : Int) : Option (Bool) := some ((Int.tmod (IntKind.u64.wrap (Int.tdiv a0 1099511627776)) 2) == 1)
set_option maxHeartbeats 8000000 in
set_option maxRecDepth 100000 in
theorem gangwayref02_Group.calls (a0 : Int) (r : Bool) (w : World) (h : gangwayref02_Group.f a0 = some r) :
  Calls Tryd.prog 39 #[.int .u64 a0] w fun e w' => e = .returned (.bool r) ∧ Drawn0 w w' := by
 have H : (some ((Int.tmod (IntKind.u64.wrap (Int.tdiv a0 1099511627776)) 2) == 1)) = some r := h
 clear h
 obtain rfl := Option.some.inj H
 go_enter Tryd.func39, Tryd.ntmps39
 go_wp2
 go_ret
 exact ⟨by first | rfl | (simp; done) | (simp [*]; done), by repeat (first | exact Drawn0.refl _ | apply Drawn0.step)⟩

/-! ### gangwayref02_Own: function 32 -/
def gangwayref02_Own.f (a0 : Int) : Option (Bool) := if a0 > 0 then (if a0 < 281474976710656 then ((gangwayref02_Group.f a0).bind fun t451 => (some (!t451))) else (some false)) else (some false)
set_option maxHeartbeats 8000000 in
set_option maxRecDepth 100000 in
theorem gangwayref02_Own.calls (a0 : Int) (r : Bool) (w : World) (h : gangwayref02_Own.f a0 = some r) :
  Calls Tryd.prog 32 #[.int .u64 a0] w fun e w' => e = .returned (.bool r) ∧ Drawn0 w w' := by
 have H : (if a0 > 0 then (if a0 < 281474976710656 then ((gangwayref02_Group.f a0).bind fun t451 => (some (!t451))) else (some false)) else (some false)) = some r := h
 clear h
 by_cases c2 : a0 > 0
 ·rw [if_pos c2] at H
  have c2b0 : decide (0 < a0) = true := decide_eq_true c2
  clear c2
  by_cases c3 : a0 < 281474976710656
  ·rw [if_pos c3] at H
   have c3b0 : decide (a0 < 281474976710656) = true := decide_eq_true c3
   clear c3
   replace H := Option.bind_eq_some_iff.mp H
   obtain ⟨t451, A40, H⟩ := H
   replace H : (some (!t451)) = some r := H
   have A4 := Aside0.mk A40
   clear A40
   obtain rfl := Option.some.inj H
   go_enter Tryd.func32, Tryd.ntmps32
   go_wp2_with (first | (go_at_call 39; (with_reducible refine (gangwayref02_Group.calls a0 t451 _ A4.out).mono ?_); rintro e w' ⟨rfl, ⟨nd, rfl⟩⟩))
   go_ret
   exact ⟨by first | rfl | (simp; done) | (simp [*]; done), by repeat (first | exact Drawn0.refl _ | apply Drawn0.step)⟩
  ·rw [if_neg c3] at H
   have c3b0 : decide (a0 < 281474976710656) = false := decide_eq_false c3
   clear c3
   obtain rfl := Option.some.inj H
   go_enter Tryd.func32, Tryd.ntmps32
   go_wp2
   go_ret
   exact ⟨by first | rfl | (simp; done) | (simp [*]; done), by repeat (first | exact Drawn0.refl _ | apply Drawn0.step)⟩
 ·rw [if_neg c2] at H
  have c2b0 : decide (0 < a0) = false := decide_eq_false c2
  clear c2
  obtain rfl := Option.some.inj H
  go_enter Tryd.func32, Tryd.ntmps32
  go_wp2
  go_ret
  exact ⟨by first | rfl | (simp; done) | (simp [*]; done), by repeat (first | exact Drawn0.refl _ | apply Drawn0.step)⟩

end Go.Proofs.YtbfjlhjfpmgplaaDoor.P
