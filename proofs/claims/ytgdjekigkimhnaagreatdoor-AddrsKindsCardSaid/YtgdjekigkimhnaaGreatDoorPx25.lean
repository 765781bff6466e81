-- slim
-- Written by wip/hprint.py (this session's program) through the kit's print program; hand contracts are marked 'by hand'.
import Derived.Test.YtgdjekigkimhnaaGreatDoorAbb
import Derived.Test.YtgdjekigkimhnaaGreatDoorPx0
import Derived.Test.YtgdjekigkimhnaaGreatDoorPx23
namespace Go.Proofs.YtgdjekigkimhnaaGreatDoor.P
open Go.RowKit Go.Proofs.YtgdjekigkimhnaaGreatDoorW.PrintWords Go.Proofs.YtgdjekigkimhnaaGreatDoorW.PrintLast Go.Proofs.YtgdjekigkimhnaaGreatDoorW.PrintMore
attribute [local go_sem] max2_int min2_int max_two min_two max_three min_three max_four min_four   -- for this text's walks alone
set_option linter.unusedVariables false
set_option linter.unusedSimpArgs false

theorem q25f {p : Prop} (h : p := by (with_reducible repeat (first | refine blk_drewN ?_ _ | refine blk_drew ?_ | refine blk_alloc ?_ _)); exact BK221.out) : p := h
theorem q6bg {p : Prop} (h : p := by repeat (first | (with_reducible first | exact HB.out | apply below_alloc | apply pw_below_drewN | apply below_drew1 | refine below_set ?_ GE221.out) | exact HB.out)) : p := h
/-! ### gangwayref02_Own: function 21 -/
def gangwayref02_Own.f (a0 : Int) : Option (Bool) := if a0 > 0 then (if a0 < 281474976710656 then ((gangwayref02_Group.f a0).bind fun t220 => (some (!t220))) else (some false)) else (some false)
theorem z25_0 {p : Prop} (h : p := by
 obtain rfl := Option.some.inj H
 go_enter Tryz.func21, Tryz.ntmps21
 go_wp2
 go_ret
 exact ⟨q8z4, qlmv⟩) : p := h
set_option maxHeartbeats 8000000 in
set_option maxRecDepth 100000 in
theorem gangwayref02_Own.calls (a0 : Int) (r : Bool) (w : World) (h : gangwayref02_Own.f a0 = some r) :
  Calls Tryz.prog 21 #[.int .u64 a0] w fun e w' => e = .returned (.bool r) ∧ Drawn0 w w' := by
 have H := h
 unfold gangwayref02_Own.f at H
 clear h
 by_cases c2 : a0 > 0
 ·rw [if_pos c2] at H
  have c2b0 : decide (0 < a0) = true := decide_eq_true c2
  clear c2
  by_cases c3 : a0 < 281474976710656
  ·rw [if_pos c3] at H
   have c3b0 : decide (a0 < 281474976710656) = true := decide_eq_true c3
   clear c3
   replace H := Option.bind_eq_some_iff.mp H
   obtain ⟨t220, A40, H⟩ := H
   try dsimp only at H
   have A4 := Aside0.mk A40
   clear A40
   obtain rfl := Option.some.inj H
   go_enter Tryz.func21, Tryz.ntmps21
   go_wp2_with (first | (go_at_call 19; (with_reducible refine (gangwayref02_Group.calls a0 t220 _ A4.out).mono ?_); rintro e w' ⟨rfl, ⟨nd, rfl⟩⟩))
   go_ret
   exact ⟨q8z4, qlmv⟩
  ·rw [if_neg c3] at H
   have c3b0 : decide (a0 < 281474976710656) = false := decide_eq_false c3
   clear c3
   exact z25_0
 ·rw [if_neg c2] at H
  have c2b0 : decide (0 < a0) = false := decide_eq_false c2
  clear c2
  exact z25_0
/-! ### gangwayref02_size: function 45 -/
def gangwayref02_size.l0 : Nat → Int → Int → Option (Int)
 | 0, _, _ => none
 | k + 1, x3, x4 => if x4 < 32 then (gangwayref02_size.l0 k (IntKind.u64.wrap (2 * x3)) (wrap64 (x4 + 1))) else (some x3)
def gangwayref02_size.f (k : Nat) (a0_0 : Int) (a0_1 : Int) : Option (Int) := gangwayref02_size.l0 k 1 a0_1
theorem gangwayref02_size.mono_l : ∀ k, (∀ y0 y1, LeO (gangwayref02_size.l0 k y0 y1) (gangwayref02_size.l0 (k + 1) y0 y1))
 | 0 => fun _ _ r h => by simp [gangwayref02_size.l0] at h
 | k + 1 => by
  have ih0 := gangwayref02_size.mono_l k
  ·intro y0 y1
   unfold gangwayref02_size.l0
   repeat' first
   | (with_reducible exact ih0 _ _)
   | (with_reducible exact LeO.refl _)
   | (with_reducible exact LeO.none _)
   | (with_reducible refine LeO.ite ?_ ?_)
   | (with_reducible refine LeO.bind ?_ (fun _ => ?_))
   | exact ih0 _ _
   | exact LeO.none _
   | refine LeO.ite ?_ ?_
   | refine LeO.bind ?_ (fun _ => ?_)
theorem gangwayref02_size.mono : ∀ a0 a1 k, LeO (gangwayref02_size.f k a0 a1) (gangwayref02_size.f (k + 1) a0 a1) := by
 intro a0 a1 k
 have ih0 := gangwayref02_size.mono_l k
 unfold gangwayref02_size.f
 repeat' first
   | (with_reducible exact ih0 _ _)
   | (with_reducible exact LeO.refl _)
   | (with_reducible exact LeO.none _)
   | (with_reducible refine LeO.ite ?_ ?_)
   | (with_reducible refine LeO.bind ?_ (fun _ => ?_))
   | exact ih0 _ _
   | exact LeO.none _
   | refine LeO.ite ?_ ?_
   | refine LeO.bind ?_ (fun _ => ?_)
set_option maxHeartbeats 8000000 in
set_option maxRecDepth 100000 in
theorem gangwayref02_size.calls (k : Nat) (a0_0 : Int) (a0_1 : Int) (r : Int) (w : World) (h : gangwayref02_size.f k a0_0 a0_1 = some r) :
  Calls Tryz.prog 45 #[.agg #[.int .u32 a0_0, .int .i64 a0_1]] w fun e w' => e = .returned (.int .u64 r) ∧ Below w.heap.size w w' := by
 have hu34 := Tryz.underlying34
 have HB := Aside0.mk (Below.refl w.heap.size w)
 have H := h
 unfold gangwayref02_size.f at H
 clear h
 have H' := Aside0.mk H
 clear H
 go_enter Tryz.func45, Tryz.ntmps45
 go_wp2_with (first | ((with_reducible refine gate_dst (N := 1) rfl ?_); refine box_event qgcr (N := 1) qgcr (cs := #[.int .u32 a0_0, .int .i64 a0_1]) (t := 34) qlto ?_; intro gb221 hg w2 hbox hb; have BK221 := Aside0.mk (hbox); have GE221 := Aside0.mk ((qisx : w.heap.size ≤ gb221)); replace HB := Aside0.mk (below_step qpag hb); clear hb hbox hg; have hcz3_0 : w2.cell? ⟨gb221, 0, none⟩ = some (.int .u32 a0_0) := (blk_cell BK221.out 0).trans rfl; have hcz3_1 : w2.cell? ⟨gb221, 1, none⟩ = some (.int .i64 a0_1) := (blk_cell BK221.out 1).trans rfl; have hfz3_0 := blk_frozen BK221.out 0; have hfz3_1 := blk_frozen BK221.out 1))
 go_loopg [3, 4] k (fun kq v3 v4 w' => ∃ (x3_1 : Int) (x4_1 : Int), v3 = .int .u64 x3_1 ∧ v4 = .int .i64 x4_1 ∧ Aside0 (gangwayref02_size.l0 kq x3_1 x4_1 = some r) ∧ Aside0 (kq ≤ k) ∧ Aside0 (w'.heap[gb221]? = some (.cells #[.int .u32 a0_0, .int .i64 a0_1] 34 (0, 0))) ∧ Aside0 (Below w.heap.size w w'))
 case atStart => exact ⟨(1), (a0_1), q8z4, q8z4, H', ⟨Nat.le_refl _⟩, ⟨q25f⟩, ⟨q6bg⟩⟩
 case round =>
  clear H'
  try clear p2
  obtain ⟨x3_1, x4_1, rfl, rfl, HA, HK1, BK221, HB⟩ := hrel
  cases gk with
  | zero => exact absurd HA.out (by simp [gangwayref02_size.l0])
  | succ k1 =>
   have H := HA.out
   clear HA
   simp only [gangwayref02_size.l0] at H
   by_cases c4 : x4_1 < 32
   ·rw [if_pos c4] at H
    have c4b0 : decide (x4_1 < 32) = true := decide_eq_true c4
    clear c4
    have H' := Aside0.mk H
    clear H
    go_wp2
    go_roundg k1
    case measure => have := HK1.out; omega
    case rel => exact ⟨(IntKind.u64.wrap (2 * x3_1)), (wrap64 (x4_1 + 1)), q8z4, q8z4, H', ⟨qi8h⟩, ⟨q25f⟩, ⟨q6bg⟩⟩
   ·rw [if_neg c4] at H
    have c4b0 : decide (x4_1 < 32) = false := decide_eq_false c4
    clear c4
    obtain rfl := Option.some.inj H
    go_wp2
    go_ret
    exact ⟨qxu5, q6bg⟩
end Go.Proofs.YtgdjekigkimhnaaGreatDoor.P
namespace Go.Proofs.YtgdjekigkimhnaaGreatDoor.P
open Go.RowKit Go.Proofs.YtgdjekigkimhnaaGreatDoorW.PrintWords Go.Proofs.YtgdjekigkimhnaaGreatDoorW.PrintLast Go.Proofs.YtgdjekigkimhnaaGreatDoorW.PrintMore
attribute [local go_sem] max2_int min2_int max_two min_two max_three min_three max_four min_four   -- for this text's walks alone
set_option linter.unusedVariables false
set_option linter.unusedSimpArgs false

theorem qxwr {p : Prop} (h : p := by repeat (first | (with_reducible first | exact HB.out | apply below_alloc | apply pw_below_drewN | apply below_drew1 | refine below_set ?_ GE222.out) | exact HB.out)) : p := h
/-! ### gangwayref02_Net: function 23 -/
def gangwayref02_Net.f (k : Nat) (a0_0 : Int) (a0_1 : Int) : Option (Bool) := if a0_1 ≥ 0 then (if a0_1 ≤ 32 then ((gangwayref02_size.f k a0_0 a0_1).bind fun t223 => (if t223 = 0 then (none) else (some ((Int.tmod (IntKind.u64.wrap (a0_0)) t223) == 0)))) else (some false)) else (some false)
theorem gangwayref02_Net.mono : ∀ a0 a1 k, LeO (gangwayref02_Net.f k a0 a1) (gangwayref02_Net.f (k + 1) a0 a1) := by
 intro a0 a1 k
 unfold gangwayref02_Net.f
 repeat' first
   | (with_reducible exact gangwayref02_size.mono _ _ _)
   | (with_reducible exact LeO.refl _)
   | (with_reducible exact LeO.none _)
   | (with_reducible refine LeO.ite ?_ ?_)
   | (with_reducible refine LeO.bind ?_ (fun _ => ?_))
   | exact gangwayref02_size.mono _ _ _
   | exact LeO.none _
   | refine LeO.ite ?_ ?_
   | refine LeO.bind ?_ (fun _ => ?_)
def gangwayref02_Net.T1 : Bool × List (List Nat × List Nat) := (true, [([], []), ([0], [0]), ([1], [1]), ([2], [2]), ([3], [3]), ([4, 3], [3, 4]), ([5, 3], [3, 5]), ([3, 6], [3, 6]), ([7, 3], [7]), ([8], [8]), ([9, 8], [8, 9]), ([10, 8], [8, 10]), ([8], [8]), ([12, 8, 8], [8, 12]), ([11, 13, 8], [8, 11, 13]), ([14, 8], [8, 14]), ([8, 15], [8, 15]), ([16, 13, 0, 1, 2, 3, 4, 5, 6, 7, 8, 9, 10, 11, 12, 13, 14, 15, 16], [16])])
def gangwayref02_Net.B1 : List Nat := [0, 1, 3, 7, 15, 31, 63, 127, 255, 511, 1023, 2047, 511, 4607, 16383, 32767, 65535, 131071]
theorem gangwayref02_Net.tab1 : rtab .any (opsOf Tryz.f23 1) = gangwayref02_Net.T1 := by kernel_rfl
theorem gangwayref02_Net.bits1 : waitsOk gangwayref02_Net.T1.2 gangwayref02_Net.B1 = true := by kernel_rfl
theorem z26_0 {p : Prop} (h : p := by
 simp only [Act.put, List.setIfInBounds_toArray, List.set_cons_zero, List.set_cons_succ, i64_w, i32_w]
 rfl) : p := h
set_option maxHeartbeats 8000000 in
set_option maxRecDepth 100000 in
theorem gangwayref02_Net.calls (k : Nat) (a0_0 : Int) (a0_1 : Int) (r : Bool) (w : World) (h : gangwayref02_Net.f k a0_0 a0_1 = some r) :
  Calls Tryz.prog 23 #[.agg #[.int .u32 a0_0, .int .i64 a0_1]] w fun e w' => e = .returned (.bool r) ∧ Below w.heap.size w w' := by
 have hu34 := Tryz.underlying34
 have HB := Aside0.mk (Below.refl w.heap.size w)
 have H := h
 unfold gangwayref02_Net.f at H
 clear h
 by_cases c2 : a0_1 ≥ 0
 ·rw [if_pos c2] at H
  have c2b0 : decide (0 ≤ a0_1) = true := decide_eq_true c2
  clear c2
  by_cases c3 : a0_1 ≤ 32
  ·rw [if_pos c3] at H
   have c3b0 : decide (a0_1 ≤ 32) = true := decide_eq_true c3
   clear c3
   replace H := Option.bind_eq_some_iff.mp H
   obtain ⟨t223, A40, H⟩ := H
   try dsimp only at H
   have A4 := Aside0.mk A40
   clear A40
   by_cases c5 : t223 = 0
   ·rw [if_pos c5] at H
    exact absurd H q6hr
   ·rw [if_neg c5] at H
    have c5b0 : (t223 == 0) = false := beq_eq_false_iff_ne.mpr c5
    have c5b1 : (t223 != 0) = true := bne_iff_ne.mpr c5
    obtain rfl := Option.some.inj H
    go_enter Tryz.func23, Tryz.ntmps23
    try go_wp2_with (first | ((with_reducible refine gate_dst (N := 1) rfl ?_); refine box_event qgcr (N := 1) qgcr (cs := #[.int .u32 a0_0, .int .i64 a0_1]) (t := 34) qlto ?_; intro gb222 hg w6 hbox hb; have BK222 := Aside0.mk (hbox); have GE222 := Aside0.mk ((qisx : w.heap.size ≤ gb222)); replace HB := Aside0.mk (below_step qpag hb); clear hb hbox hg))
    replace BK222 := Aside0.mk (blk_drew BK222.out)
    replace HB := Aside0.mk (below_drew1 HB.out)
    refine start_ (n := 18) (S := fun w' => w'.cell? ⟨gb222, 0, none⟩ = some (.int .u32 a0_0) ∧ w'.cell? ⟨gb222, 1, none⟩ = some (.int .i64 a0_1)) (ds := []) (ba 18 0) qg3m rfl rfl ⟨(blk_cell BK222.out 0).trans rfl, (blk_cell BK222.out 1).trans rfl⟩ (fun hHeld => ?_); refine with_tabW gangwayref02_Net.tab1 gangwayref02_Net.bits1 (fun HT_ HW_ => ?_)
    generalize w6.drew = w7 at BK222 HB hHeld ⊢
    refine pu_139 (i := 0) (N := some 3) (ba 18 1) ?_
    refine tk_ca0 (i := 1) (N := some 4) (ba 18 3) hHeld ?_
    refine pu_139 (i := 2) (N := some 5) (ba 18 7) ?_
    refine pu_139 (i := 3) (N := some 6) (ba 18 15) ?_
    refine pu_139 (i := 4) (N := some 7) (ba 18 31) ?_
    refine tk_ca0 (i := 5) (N := some 8) (ba 18 63) hHeld ?_
    refine pu_139 (i := 6) (N := some 9) (ba 18 127) ?_
    refine pu_139 (i := 7) (N := some 10) (ba 18 255) ?_
    refine pu_139 (i := 8) (N := some 11) (ba 18 511) ?_
    refine pu_139 (i := 9) (N := some 12) (ba 18 1023) ?_
    refine tk_ca0 (i := 10) (N := some 13) (ba 18 2047) hHeld ?_
    refine pu_139 (i := 11) (N := some 14) (ba 18 4095) ?_
    refine tk_ca0 (i := 12) (N := some 15) (ba 18 8191) hHeld ?_
    refine one_ (i := 13) (N := some 16) (ba 18 16383) rfl rfl (one_of HT_.out qg3m) qomw (fun K hK => ?_)
    refine goes_ Tryz.func45 qg3m rfl #[.agg #[.int .u32 a0_0, .int .i64 a0_1]] qlo1 rfl rfl qraq ?_
    with_reducible refine (gangwayref02_size.calls k a0_0 a0_1 t223 _ A4.out).mono ?_
    rintro e w8 ⟨rfl, hb⟩
    refine ⟨_, rfl, ?_⟩
    replace BK222 := Aside0.mk (blk_below (g := gb222) (o := .cells #[.int .u32 a0_0, .int .i64 a0_1] 34 (0, 0)) (by (with_reducible repeat (first | refine blk_drewN ?_ _ | refine blk_drew ?_ | refine blk_alloc ?_ _)); exact BK222.out) hb)
    replace HB := Aside0.mk (below_step qxwr hb)
    (try clear hb)
    (try clear hb2)
    (try clear hk)
    (try clear hi)
    refine hK.out _ _ (by exact ⟨(blk_cell BK222.out 0).trans rfl, (blk_cell BK222.out 1).trans rfl⟩) (fun hHeld => ?_)
    clear hK K
    refine norm_ (a' := ?_) ?_ ?_
    rotate_left
    ·show Act.put _ (some 16) _ = _
     simp only [Act.put, List.setIfInBounds_toArray, List.set_cons_zero, List.set_cons_succ, i64_w, i32_w]
     rfl
    refine pu_139 (i := 14) (N := some 17) (ba 18 32767) ?_
    refine pu_139 (i := 15) (N := some 18) (ba 18 65535) ?_
    refine pu_139 (i := 16) (N := some 19) (ba 18 131071) ?_
    refine pu_139 (i := 17) (N := some 2) (ba 18 262143) ?_
    refine done_ (done_of HT_.out qg3m) ?_
    try go_wp2
    go_ret
    exact ⟨qxu5, qxwr⟩
  ·rw [if_neg c3] at H
   have c3b0 : decide (a0_1 ≤ 32) = false := decide_eq_false c3
   clear c3
   obtain rfl := Option.some.inj H
   go_enter Tryz.func23, Tryz.ntmps23
   try go_wp2_with (first | ((with_reducible refine gate_dst (N := 1) rfl ?_); refine box_event qgcr (N := 1) qgcr (cs := #[.int .u32 a0_0, .int .i64 a0_1]) (t := 34) qlto ?_; intro gb222 hg w9 hbox hb; have BK222 := Aside0.mk (hbox); have GE222 := Aside0.mk ((qisx : w.heap.size ≤ gb222)); replace HB := Aside0.mk (below_step qpag hb); clear hb hbox hg))
   replace BK222 := Aside0.mk (blk_drew BK222.out)
   replace HB := Aside0.mk (below_drew1 HB.out)
   refine start_ (n := 18) (S := fun w' => w'.cell? ⟨gb222, 0, none⟩ = some (.int .u32 a0_0) ∧ w'.cell? ⟨gb222, 1, none⟩ = some (.int .i64 a0_1)) (ds := []) (ba 18 0) qg3m rfl rfl ⟨(blk_cell BK222.out 0).trans rfl, (blk_cell BK222.out 1).trans rfl⟩ (fun hHeld => ?_); refine with_tabW gangwayref02_Net.tab1 gangwayref02_Net.bits1 (fun HT_ HW_ => ?_)
   generalize w9.drew = w10 at BK222 HB hHeld ⊢
   refine pu_139 (i := 0) (N := some 3) (ba 18 1) ?_
   refine tk_ca0 (i := 1) (N := some 4) (ba 18 3) hHeld ?_
   refine pu_139 (i := 2) (N := some 5) (ba 18 7) ?_
   refine pu_139 (i := 3) (N := some 6) (ba 18 15) ?_
   refine pu_139 (i := 4) (N := some 7) (ba 18 31) ?_
   refine tk_ca0 (i := 5) (N := some 8) (ba 18 63) hHeld ?_
   refine pu_139 (i := 6) (N := some 9) (ba 18 127) ?_
   refine pu_139 (i := 7) (N := some 10) (ba 18 255) ?_
   refine pu_139 (i := 8) (N := some 11) (ba 18 511) ?_
   refine pure_ (i := 9) (N := some 12) (v := undef) (a' := ?_) (ba 18 1023) rfl rfl (any_of HT_.out qg3m) (fun _ _ _ h => h) (Or.inr ⟨quos, rfl⟩) ?_ ?_
   rotate_left
   ·exact z26_0
   refine pure_ (i := 10) (N := some 13) (v := undef) (a' := ?_) (ba 18 2047) rfl rfl (any_of HT_.out qg3m) (fun _ _ _ h => h) (Or.inr ⟨quos, rfl⟩) ?_ ?_
   rotate_left
   ·exact z26_0
   refine pure_ (i := 11) (N := some 14) (v := undef) (a' := ?_) (ba 18 4095) rfl rfl (any_of HT_.out qg3m) (fun _ _ _ h => h) (Or.inr ⟨quos, rfl⟩) ?_ ?_
   rotate_left
   ·exact z26_0
   refine pure_ (i := 12) (N := some 15) (v := undef) (a' := ?_) (ba 18 8191) rfl rfl (any_of HT_.out qg3m) (fun _ _ _ h => h) (Or.inr ⟨quos, rfl⟩) ?_ ?_
   rotate_left
   ·exact z26_0
   refine pure_ (i := 13) (N := some 16) (v := undef) (a' := ?_) (ba 18 16383) rfl rfl (any_of HT_.out qg3m) (fun _ _ _ h => h) (Or.inr ⟨quos, rfl⟩) ?_ ?_
   rotate_left
   ·exact z26_0
   refine pure_ (i := 14) (N := some 17) (v := undef) (a' := ?_) (ba 18 32767) rfl rfl (any_of HT_.out qg3m) (fun _ _ _ h => h) (Or.inr ⟨quos, rfl⟩) ?_ ?_
   rotate_left
   ·exact z26_0
   refine pure_ (i := 15) (N := some 18) (v := undef) (a' := ?_) (ba 18 65535) rfl rfl (any_of HT_.out qg3m) (fun _ _ _ h => h) (Or.inr ⟨quos, rfl⟩) ?_ ?_
   rotate_left
   ·exact z26_0
   refine pu_139 (i := 16) (N := some 19) (ba 18 131071) ?_
   refine pu_139 (i := 17) (N := some 2) (ba 18 262143) ?_
   refine done_ (done_of HT_.out qg3m) ?_
   try go_wp2
   go_ret
   exact ⟨qxu5, qxwr⟩
 ·rw [if_neg c2] at H
  have c2b0 : decide (0 ≤ a0_1) = false := decide_eq_false c2
  clear c2
  obtain rfl := Option.some.inj H
  go_enter Tryz.func23, Tryz.ntmps23
  try go_wp2_with (first | ((with_reducible refine gate_dst (N := 1) rfl ?_); refine box_event qgcr (N := 1) qgcr (cs := #[.int .u32 a0_0, .int .i64 a0_1]) (t := 34) qlto ?_; intro gb222 hg w11 hbox hb; have BK222 := Aside0.mk (hbox); have GE222 := Aside0.mk ((qisx : w.heap.size ≤ gb222)); replace HB := Aside0.mk (below_step qpag hb); clear hb hbox hg))
  replace BK222 := Aside0.mk (blk_drew BK222.out)
  replace HB := Aside0.mk (below_drew1 HB.out)
  refine start_ (n := 18) (S := fun w' => w'.cell? ⟨gb222, 0, none⟩ = some (.int .u32 a0_0) ∧ w'.cell? ⟨gb222, 1, none⟩ = some (.int .i64 a0_1)) (ds := []) (ba 18 0) qg3m rfl rfl ⟨(blk_cell BK222.out 0).trans rfl, (blk_cell BK222.out 1).trans rfl⟩ (fun hHeld => ?_); refine with_tabW gangwayref02_Net.tab1 gangwayref02_Net.bits1 (fun HT_ HW_ => ?_)
  generalize w11.drew = w12 at BK222 HB hHeld ⊢
  refine pu_139 (i := 0) (N := some 3) (ba 18 1) ?_
  refine tk_ca0 (i := 1) (N := some 4) (ba 18 3) hHeld ?_
  refine pu_139 (i := 2) (N := some 5) (ba 18 7) ?_
  refine pu_139 (i := 3) (N := some 6) (ba 18 15) ?_
  refine pure_ (i := 4) (N := some 7) (v := undef) (a' := ?_) (ba 18 31) rfl rfl (any_of HT_.out qg3m) (fun _ _ _ h => h) (Or.inr ⟨quos, rfl⟩) ?_ ?_
  rotate_left
  ·exact z26_0
  refine pure_ (i := 5) (N := some 8) (v := undef) (a' := ?_) (ba 18 63) rfl rfl (any_of HT_.out qg3m) (fun _ _ _ h => h) (Or.inr ⟨quos, rfl⟩) ?_ ?_
  rotate_left
  ·exact z26_0
  refine pure_ (i := 6) (N := some 9) (v := undef) (a' := ?_) (ba 18 127) rfl rfl (any_of HT_.out qg3m) (fun _ _ _ h => h) (Or.inr ⟨quos, rfl⟩) ?_ ?_
  rotate_left
  ·exact z26_0
  refine pu_139 (i := 7) (N := some 10) (ba 18 255) ?_
  refine pu_139 (i := 8) (N := some 11) (ba 18 511) ?_
  refine pure_ (i := 9) (N := some 12) (v := undef) (a' := ?_) (ba 18 1023) rfl rfl (any_of HT_.out qg3m) (fun _ _ _ h => h) (Or.inr ⟨quos, rfl⟩) ?_ ?_
  rotate_left
  ·exact z26_0
  refine pure_ (i := 10) (N := some 13) (v := undef) (a' := ?_) (ba 18 2047) rfl rfl (any_of HT_.out qg3m) (fun _ _ _ h => h) (Or.inr ⟨quos, rfl⟩) ?_ ?_
  rotate_left
  ·exact z26_0
  refine pure_ (i := 11) (N := some 14) (v := undef) (a' := ?_) (ba 18 4095) rfl rfl (any_of HT_.out qg3m) (fun _ _ _ h => h) (Or.inr ⟨quos, rfl⟩) ?_ ?_
  rotate_left
  ·exact z26_0
  refine pure_ (i := 12) (N := some 15) (v := undef) (a' := ?_) (ba 18 8191) rfl rfl (any_of HT_.out qg3m) (fun _ _ _ h => h) (Or.inr ⟨quos, rfl⟩) ?_ ?_
  rotate_left
  ·exact z26_0
  refine pure_ (i := 13) (N := some 16) (v := undef) (a' := ?_) (ba 18 16383) rfl rfl (any_of HT_.out qg3m) (fun _ _ _ h => h) (Or.inr ⟨quos, rfl⟩) ?_ ?_
  rotate_left
  ·exact z26_0
  refine pure_ (i := 14) (N := some 17) (v := undef) (a' := ?_) (ba 18 32767) rfl rfl (any_of HT_.out qg3m) (fun _ _ _ h => h) (Or.inr ⟨quos, rfl⟩) ?_ ?_
  rotate_left
  ·exact z26_0
  refine pure_ (i := 15) (N := some 18) (v := undef) (a' := ?_) (ba 18 65535) rfl rfl (any_of HT_.out qg3m) (fun _ _ _ h => h) (Or.inr ⟨quos, rfl⟩) ?_ ?_
  rotate_left
  ·exact z26_0
  refine pu_139 (i := 16) (N := some 19) (ba 18 131071) ?_
  refine pu_139 (i := 17) (N := some 2) (ba 18 262143) ?_
  refine done_ (done_of HT_.out qg3m) ?_
  try go_wp2
  go_ret
  exact ⟨qxu5, qxwr⟩
end Go.Proofs.YtgdjekigkimhnaaGreatDoor.P
