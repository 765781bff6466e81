-- slim
-- Written by wip/hprint.py (this session's program) through the kit's print program; hand contracts are marked 'by hand'.
import Derived.Test.YtgdjekigkimhnaaGreatDoorAbb
import Derived.Test.YtgdjekigkimhnaaGreatDoorPx0
import Derived.Test.YtgdjekigkimhnaaGreatDoorPx17
import Derived.Test.YtgdjekigkimhnaaGreatDoorPx11
namespace Go.Proofs.YtgdjekigkimhnaaGreatDoor.P
open Go.RowKit Go.Proofs.YtgdjekigkimhnaaGreatDoorW.PrintWords Go.Proofs.YtgdjekigkimhnaaGreatDoorW.PrintLast Go.Proofs.YtgdjekigkimhnaaGreatDoorW.PrintMore
attribute [local go_sem] max2_int min2_int max_two min_two max_three min_three max_four min_four   -- for this text's walks alone
set_option linter.unusedVariables false
set_option linter.unusedSimpArgs false

theorem q3xr {p : Prop} (h : p := by exact ⟨(blk_cell BK160.out 0).trans rfl, (blk_cell BK160.out 1).trans rfl⟩) : p := h
theorem qlp3 {p : Prop} (h : p := by (with_reducible repeat (first | refine blk_drewN ?_ _ | refine blk_drew ?_ | refine blk_alloc ?_ _)); exact BK160.out) : p := h
theorem qo1a {p : Prop} (h : p := by repeat (first | (with_reducible first | exact HB.out | apply below_alloc | apply pw_below_drewN | apply below_drew1 | refine below_set ?_ GE160.out) | exact HB.out)) : p := h
/-! ### addrs_In: function 24 -/
def addrs_In.f (k : Nat) (a0_0 : Int) (a0_1 : Int) (a1 : Int) : Option (Bool) := (addrs_Net.f k a0_0 a0_1).bind fun t161 => (if t161 = true then ((addrs_rest.f k a0_0 a0_1).bind fun t162 => (some ((Go.bits .andNot .u32 a1 t162) == a0_0))) else (some false))
theorem addrs_In.mono : ∀ a0 a1 a2 k, LeO (addrs_In.f k a0 a1 a2) (addrs_In.f (k + 1) a0 a1 a2) := by
 intro a0 a1 a2 k
 unfold addrs_In.f
 repeat' first
   | (with_reducible exact addrs_Net.mono _ _ _)
   | (with_reducible exact addrs_rest.mono _ _ _)
   | (with_reducible exact LeO.refl _)
   | (with_reducible exact LeO.none _)
   | (with_reducible refine LeO.ite ?_ ?_)
   | (with_reducible refine LeO.bind ?_ (fun _ => ?_))
   | exact addrs_Net.mono _ _ _
   | exact addrs_rest.mono _ _ _
   | exact LeO.none _
   | refine LeO.ite ?_ ?_
   | refine LeO.bind ?_ (fun _ => ?_)
def addrs_In.T1 : Bool × List (List Nat × List Nat) := (true, [([], []), ([0], [0]), ([1, 1], [1]), ([2], [2]), ([2], [2]), ([4, 2, 2], [2, 4]), ([3, 5, 2], [2, 3, 5]), ([2], [2]), ([7, 2], [2, 7]), ([6, 8, 2], [2, 6, 8]), ([2, 9], [2, 9]), ([10, 5, 0, 1, 2, 3, 4, 5, 6, 7, 8, 9, 10], [10])])
def addrs_In.B1 : List Nat := [0, 1, 3, 7, 7, 23, 63, 7, 135, 511, 1023, 2047]
theorem addrs_In.tab1 : rtab .any (opsOf Tryz.f24 1) = addrs_In.T1 := by kernel_rfl
theorem addrs_In.bits1 : waitsOk addrs_In.T1.2 addrs_In.B1 = true := by kernel_rfl
theorem z18_0 {p : Prop} (h : p := by
 simp only [Act.put, List.setIfInBounds_toArray, List.set_cons_zero, List.set_cons_succ, i64_w, i32_w]
 rfl) : p := h
theorem z18_1 {p : Prop} (h : p := by
 show Act.put _ (some 6) _ = _
 simp only [Act.put, List.setIfInBounds_toArray, List.set_cons_zero, List.set_cons_succ, i64_w, i32_w]
 rfl) : p := h
set_option maxHeartbeats 8000000 in
set_option maxRecDepth 100000 in
theorem addrs_In.calls (k : Nat) (a0_0 : Int) (a0_1 : Int) (a1 : Int) (r : Bool) (w : World) (h : addrs_In.f k a0_0 a0_1 a1 = some r) :
  Calls Tryz.prog 24 #[.agg #[.int .u32 a0_0, .int .i64 a0_1], .int .u32 a1] w fun e w' => e = .returned (.bool r) ∧ Below w.heap.size w w' := by
 have hu34 := Tryz.underlying34
 have HB := Aside0.mk (Below.refl w.heap.size w)
 have H := h
 unfold addrs_In.f at H
 clear h
 replace H := Option.bind_eq_some_iff.mp H
 obtain ⟨t161, A30, H⟩ := H
 try dsimp only at H
 have A3 := Aside0.mk A30
 clear A30
 by_cases c4 : t161 = true
 ·subst c4
  rw [if_pos rfl] at H
  replace H := Option.bind_eq_some_iff.mp H
  obtain ⟨t162, A50, H⟩ := H
  try dsimp only at H
  have A5 := Aside0.mk A50
  clear A50
  obtain rfl := Option.some.inj H
  go_enter Tryz.func24, Tryz.ntmps24
  try go_wp2_with (first | ((with_reducible refine gate_dst (N := 2) rfl ?_); refine box_event qgcr (N := 2) qgcr (cs := #[.int .u32 a0_0, .int .i64 a0_1]) (t := 34) qlto ?_; intro gb160 hg w6 hbox hb; have BK160 := Aside0.mk (hbox); have GE160 := Aside0.mk ((qisx : w.heap.size ≤ gb160)); replace HB := Aside0.mk (below_step qpag hb); clear hb hbox hg))
  replace BK160 := Aside0.mk (blk_drew BK160.out)
  replace HB := Aside0.mk (below_drew1 HB.out)
  refine start_ (n := 12) (S := fun w' => w'.cell? ⟨gb160, 0, none⟩ = some (.int .u32 a0_0) ∧ w'.cell? ⟨gb160, 1, none⟩ = some (.int .i64 a0_1)) (ds := []) (ba 12 0) qg3m rfl rfl ⟨(blk_cell BK160.out 0).trans rfl, (blk_cell BK160.out 1).trans rfl⟩ (fun hHeld => ?_); refine with_tabW addrs_In.tab1 addrs_In.bits1 (fun HT_ HW_ => ?_)
  generalize w6.drew = w7 at BK160 HB hHeld ⊢
  refine tk_ca0 (i := 0) (N := some 5) (ba 12 1) hHeld ?_
  refine one_ (i := 1) (N := some 6) (ba 12 3) rfl rfl (one_of HT_.out qg3m) qomw (fun K hK => ?_)
  refine goes_ Tryz.func22 qg3m rfl #[.agg #[.int .u32 a0_0, .int .i64 a0_1]] qlo1 rfl rfl qraq ?_
  with_reducible refine (addrs_Net.calls k a0_0 a0_1 true _ A3.out).mono ?_
  rintro e w8 ⟨rfl, hb⟩
  refine ⟨_, rfl, ?_⟩
  replace BK160 := Aside0.mk (blk_below (g := gb160) (o := .cells #[.int .u32 a0_0, .int .i64 a0_1] 34 (0, 0)) qlp3 hb)
  replace HB := Aside0.mk (below_step qo1a hb)
  (try clear hb)
  (try clear hb2)
  (try clear hk)
  (try clear hi)
  refine hK.out _ _ q3xr (fun hHeld => ?_)
  clear hK K
  refine norm_ (a' := ?_) ?_ ?_
  rotate_left
  ·exact z18_1
  refine pu_139 (i := 2) (N := some 7) (ba 12 7) ?_
  refine pu_139 (i := 3) (N := some 8) (ba 12 15) ?_
  refine pu_139 (i := 7) (N := some 12) (ba 12 143) ?_
  refine tk_ca0 (i := 4) (N := some 9) (ba 12 159) hHeld ?_
  refine tk_ca0 (i := 8) (N := some 13) (ba 12 415) hHeld ?_
  refine one_ (i := 5) (N := some 10) (ba 12 447) rfl rfl (one_of HT_.out qg3m) qomw (fun K hK => ?_)
  refine goes_ Tryz.func44 qg3m rfl #[.agg #[.int .u32 a0_0, .int .i64 a0_1]] qlo1 rfl rfl qraq ?_
  with_reducible refine (addrs_rest.calls k a0_0 a0_1 t162 _ A5.out).mono ?_
  rintro e w9 ⟨rfl, hb⟩
  refine ⟨_, rfl, ?_⟩
  replace BK160 := Aside0.mk (blk_below (g := gb160) (o := .cells #[.int .u32 a0_0, .int .i64 a0_1] 34 (0, 0)) qlp3 hb)
  replace HB := Aside0.mk (below_step qo1a hb)
  (try clear hb)
  (try clear hb2)
  (try clear hk)
  (try clear hi)
  refine hK.out _ _ q3xr (fun hHeld => ?_)
  clear hK K
  refine norm_ (a' := ?_) ?_ ?_
  rotate_left
  ·show Act.put _ (some 10) _ = _
   simp only [Act.put, List.setIfInBounds_toArray, List.set_cons_zero, List.set_cons_succ, i64_w, i32_w]
   rfl
  refine pu_139 (i := 6) (N := some 11) (ba 12 511) ?_
  refine pu_139 (i := 9) (N := some 14) (ba 12 1023) ?_
  refine pu_139 (i := 10) (N := some 15) (ba 12 2047) ?_
  refine pu_139 (i := 11) (N := some 4) (ba 12 4095) ?_
  refine done_ (done_of HT_.out qg3m) ?_
  try go_wp2
  go_ret
  exact ⟨qxu5, qo1a⟩
 ·replace c4 := Bool.eq_false_iff.mpr c4
  subst c4
  rw [if_neg (show ¬ (false = true) by decide)] at H
  obtain rfl := Option.some.inj H
  go_enter Tryz.func24, Tryz.ntmps24
  try go_wp2_with (first | ((with_reducible refine gate_dst (N := 2) rfl ?_); refine box_event qgcr (N := 2) qgcr (cs := #[.int .u32 a0_0, .int .i64 a0_1]) (t := 34) qlto ?_; intro gb160 hg w10 hbox hb; have BK160 := Aside0.mk (hbox); have GE160 := Aside0.mk ((qisx : w.heap.size ≤ gb160)); replace HB := Aside0.mk (below_step qpag hb); clear hb hbox hg))
  replace BK160 := Aside0.mk (blk_drew BK160.out)
  replace HB := Aside0.mk (below_drew1 HB.out)
  refine start_ (n := 12) (S := fun w' => w'.cell? ⟨gb160, 0, none⟩ = some (.int .u32 a0_0) ∧ w'.cell? ⟨gb160, 1, none⟩ = some (.int .i64 a0_1)) (ds := []) (ba 12 0) qg3m rfl rfl ⟨(blk_cell BK160.out 0).trans rfl, (blk_cell BK160.out 1).trans rfl⟩ (fun hHeld => ?_); refine with_tabW addrs_In.tab1 addrs_In.bits1 (fun HT_ HW_ => ?_)
  generalize w10.drew = w11 at BK160 HB hHeld ⊢
  refine tk_ca0 (i := 0) (N := some 5) (ba 12 1) hHeld ?_
  refine one_ (i := 1) (N := some 6) (ba 12 3) rfl rfl (one_of HT_.out qg3m) qomw (fun K hK => ?_)
  refine goes_ Tryz.func22 qg3m rfl #[.agg #[.int .u32 a0_0, .int .i64 a0_1]] qlo1 rfl rfl qraq ?_
  with_reducible refine (addrs_Net.calls k a0_0 a0_1 false _ A3.out).mono ?_
  rintro e w12 ⟨rfl, hb⟩
  refine ⟨_, rfl, ?_⟩
  replace BK160 := Aside0.mk (blk_below (g := gb160) (o := .cells #[.int .u32 a0_0, .int .i64 a0_1] 34 (0, 0)) qlp3 hb)
  replace HB := Aside0.mk (below_step qo1a hb)
  (try clear hb)
  (try clear hb2)
  (try clear hk)
  (try clear hi)
  refine hK.out _ _ q3xr (fun hHeld => ?_)
  clear hK K
  refine norm_ (a' := ?_) ?_ ?_
  rotate_left
  ·exact z18_1
  refine pu_139 (i := 2) (N := some 7) (ba 12 7) ?_
  refine pure_ (i := 3) (N := some 8) (v := undef) (a' := ?_) (ba 12 15) rfl rfl (any_of HT_.out qg3m) (fun _ _ _ h => h) (Or.inr ⟨quos, rfl⟩) ?_ ?_
  rotate_left
  ·exact z18_0
  refine pure_ (i := 4) (N := some 9) (v := undef) (a' := ?_) (ba 12 31) rfl rfl (any_of HT_.out qg3m) (fun _ _ _ h => h) (Or.inr ⟨quos, rfl⟩) ?_ ?_
  rotate_left
  ·exact z18_0
  refine pure_ (i := 5) (N := some 10) (v := undef) (a' := ?_) (ba 12 63) rfl rfl (any_of HT_.out qg3m) (fun _ _ _ h => h) (Or.inr ⟨quos, rfl⟩) ?_ ?_
  rotate_left
  ·exact z18_0
  refine pure_ (i := 6) (N := some 11) (v := undef) (a' := ?_) (ba 12 127) rfl rfl (any_of HT_.out qg3m) (fun _ _ _ h => h) (Or.inr ⟨quos, rfl⟩) ?_ ?_
  rotate_left
  ·exact z18_0
  refine pure_ (i := 7) (N := some 12) (v := undef) (a' := ?_) (ba 12 255) rfl rfl (any_of HT_.out qg3m) (fun _ _ _ h => h) (Or.inr ⟨quos, rfl⟩) ?_ ?_
  rotate_left
  ·exact z18_0
  refine pure_ (i := 8) (N := some 13) (v := undef) (a' := ?_) (ba 12 511) rfl rfl (any_of HT_.out qg3m) (fun _ _ _ h => h) (Or.inr ⟨quos, rfl⟩) ?_ ?_
  rotate_left
  ·exact z18_0
  refine pure_ (i := 9) (N := some 14) (v := undef) (a' := ?_) (ba 12 1023) rfl rfl (any_of HT_.out qg3m) (fun _ _ _ h => h) (Or.inr ⟨quos, rfl⟩) ?_ ?_
  rotate_left
  ·exact z18_0
  refine pu_139 (i := 10) (N := some 15) (ba 12 2047) ?_
  refine pu_139 (i := 11) (N := some 4) (ba 12 4095) ?_
  refine done_ (done_of HT_.out qg3m) ?_
  try go_wp2
  go_ret
  exact ⟨qxu5, qo1a⟩
end Go.Proofs.YtgdjekigkimhnaaGreatDoor.P
namespace Go.Proofs.YtgdjekigkimhnaaGreatDoor.P
open Go.RowKit Go.Proofs.YtgdjekigkimhnaaGreatDoorW.PrintWords Go.Proofs.YtgdjekigkimhnaaGreatDoorW.PrintLast Go.Proofs.YtgdjekigkimhnaaGreatDoorW.PrintMore
attribute [local go_sem] max2_int min2_int max_two min_two max_three min_three max_four min_four   -- for this text's walks alone
set_option linter.unusedVariables false
set_option linter.unusedSimpArgs false

/-! ### octets_number: function 49, by hand -/
-- IMPORT Derived.Test.YtgdjekigkimhnaaGreatDoorLaid
def octets_number.f (a0 : Option Int) : Option (Int) := match a0 with
 | none => some 0
 | some c => some (c % 64)
set_option maxHeartbeats 4000000 in
theorem octets_number.calls (a0 : Option Int) (r : Int) (w : World) (hL : Laid w) (h : octets_number.f a0 = some r) :
  Calls Tryz.prog 49 #[errW a0] w fun e w' => e = .returned (.int .i64 r) ∧ Below w.heap.size w w' := by
 unfold octets_number.f at h
 cases a0 with
 | none =>
  cases h
  rw [errW_none]
  go_enter Tryz.func49, Tryz.ntmps49
  go_wp2
  go_ret
  exact ⟨rfl, (Below.refl _ _).alloc (Nat.le_refl _) _⟩
 | some c =>
  obtain rfl := Option.some.inj h
  clear h
  have HL := Aside0.mk hL
  clear hL
  rw [errW_some]
  go_enter Tryz.func49, Tryz.ntmps49
  go_wp2_with (go_at_call 64; refine (Q.as_hit (c / 64) (c % 64) ⟨w.heap.size, 0, none⟩ (.int .i64 0) _ (laid_below HL.out (below_alloc (Below.refl _ _) _)).er ((blk_cell (blk_new w _) 0).trans rfl) (blk_frozen (blk_new w _) 0)).mono ?_; rintro e1 w1 ⟨rfl, w2, hb, hc, hf, rfl⟩; have HB := Aside0.mk (below_step (below_alloc (Below.refl w.heap.size w) (.cells #[.int .i64 0] 24)) hb); clear hb)
  go_ret
  exact ⟨rfl, below_set HB.out (Nat.le_refl _)⟩
/-! ### octets_Get: function 32 -/
mutual
def octets_Get.j0 : Nat → ByteArray → Int → Int → Bool → Option (Int × Int)
 | 0, _, _, _, _ => none
 | k + 1, x0, x1, x2, x17 => if x17 = true then (some (0, 1)) else ((octets_part.f x0 x1 x2).bind fun bt112 => (if bt112.2.isNone = true then (octets_Get.l0 k bt112.1 0 x2 0) else ((octets_number.f (some (bt112.2.getD 0))).bind fun t115 => (some (0, t115)))))
def octets_Get.l0 : Nat → ByteArray → Int → Int → Int → Option (Int × Int)
 | 0, _, _, _, _ => none
 | k + 1, x8, x10, x29, x30 => if x30 < x29 then (if 0 ≤ x30 then (if x30 < (x8.size : Int) then (octets_Get.l0 k x8 (Go.bits .or .u64 (IntKind.u64.wrap (x10 * 256)) (IntKind.u64.wrap (bt x8 x30))) x29 (wrap64 (x30 + 1))) else (none)) else (none)) else (some (x10, 0))
end
def octets_Get.f (k : Nat) (a0 : ByteArray) (a1 : Int) (a2 : Int) : Option (Int × Int) := if a2 < 1 then (octets_Get.j0 k a0 a1 a2 true) else (octets_Get.j0 k a0 a1 a2 (decide (a2 > 8)))
theorem octets_Get.mono_l : ∀ k, (∀ y0 y1 y2 y3, LeO (octets_Get.j0 k y0 y1 y2 y3) (octets_Get.j0 (k + 1) y0 y1 y2 y3)) ∧ (∀ y0 y1 y2 y3, LeO (octets_Get.l0 k y0 y1 y2 y3) (octets_Get.l0 (k + 1) y0 y1 y2 y3))
 | 0 => ⟨fun _ _ _ _ r h => by simp [octets_Get.j0] at h, fun _ _ _ _ r h => by simp [octets_Get.l0] at h⟩
 | k + 1 => by
  obtain ⟨ih0, ih1⟩ := octets_Get.mono_l k
  refine ⟨?_, ?_⟩
  ·intro y0 y1 y2 y3
   unfold octets_Get.j0
   repeat' first
   | (with_reducible exact ih0 _ _ _ _)
   | (with_reducible exact ih1 _ _ _ _)
   | (with_reducible exact LeO.refl _)
   | (with_reducible exact LeO.none _)
   | (with_reducible refine LeO.ite ?_ ?_)
   | (with_reducible refine LeO.bind ?_ (fun _ => ?_))
   | exact ih0 _ _ _ _
   | exact ih1 _ _ _ _
   | exact LeO.none _
   | refine LeO.ite ?_ ?_
   | refine LeO.bind ?_ (fun _ => ?_)
  ·intro y0 y1 y2 y3
   unfold octets_Get.l0
   repeat' first
   | (with_reducible exact ih0 _ _ _ _)
   | (with_reducible exact ih1 _ _ _ _)
   | (with_reducible exact LeO.refl _)
   | (with_reducible exact LeO.none _)
   | (with_reducible refine LeO.ite ?_ ?_)
   | (with_reducible refine LeO.bind ?_ (fun _ => ?_))
   | exact ih0 _ _ _ _
   | exact ih1 _ _ _ _
   | exact LeO.none _
   | refine LeO.ite ?_ ?_
   | refine LeO.bind ?_ (fun _ => ?_)
theorem octets_Get.mono : ∀ a0 a1 a2 k, LeO (octets_Get.f k a0 a1 a2) (octets_Get.f (k + 1) a0 a1 a2) := by
 intro a0 a1 a2 k
 obtain ⟨ih0, ih1⟩ := octets_Get.mono_l k
 unfold octets_Get.f
 repeat' first
   | (with_reducible exact ih0 _ _ _ _)
   | (with_reducible exact ih1 _ _ _ _)
   | (with_reducible exact LeO.refl _)
   | (with_reducible exact LeO.none _)
   | (with_reducible refine LeO.ite ?_ ?_)
   | (with_reducible refine LeO.bind ?_ (fun _ => ?_))
   | exact ih0 _ _ _ _
   | exact ih1 _ _ _ _
   | exact LeO.none _
   | refine LeO.ite ?_ ?_
   | refine LeO.bind ?_ (fun _ => ?_)
theorem z6_0 {p : Prop} (h : p := by
 simp only [Option.some.injEq, Prod.mk.injEq] at H
 obtain ⟨rfl, rfl⟩ := H
 go_wp2
 go_ret2
 exact ⟨qxu5, qpag⟩) : p := h
set_option maxHeartbeats 8000000 in
set_option maxRecDepth 100000 in
theorem octets_Get.calls (k : Nat) (a0 : ByteArray) (a1 : Int) (a2 : Int) (r1 : Int) (r2 : Int) (w : World) (hL : Laid w) (h : octets_Get.f k a0 a1 a2 = some (r1, r2)) :
  Calls Tryz.prog 32 #[.string a0, .int .i64 a1, .int .i64 a2] w fun e w' => e = .returned (.tuple #[.int .u64 r1, .int .i64 r2]) ∧ Below w.heap.size w w' := by
 have HLD := Aside0.mk hL
 clear hL
 have hu52 := Tryz.underlying52
 have HB := Aside0.mk (Below.refl w.heap.size w)
 have H := h
 unfold octets_Get.f at H
 clear h
 have HC4 := Aside0.mk H
 clear H
 go_enter Tryz.func32, Tryz.ntmps32
 go_upto_region 1 with (fail)
 go_cut [17] (fun v17 wc => ∃ (kq : Nat) (x17_3 : Bool), v17 = .bool x17_3 ∧ Aside0 (octets_Get.j0 kq a0 a1 a2 x17_3 = some (r1, r2)) ∧ Aside0 (kq ≤ k) ∧ Aside0 (Below w.heap.size w wc))
 case first =>
  have H := HC4.out
  clear HC4
  by_cases c5 : a2 < 1
  ·rw [if_pos c5] at H
   have c5b0 : decide (a2 < 1) = true := decide_eq_true c5
   clear c5
   (first | rw [c5b0] | (simp only [i64_w, i32_w]; rw [c5b0]) | skip)
   have H' := Aside0.mk H
   clear H
   go_wp2
   go_meet
   case rel => exact ⟨_, (true), q8z4, H', ⟨qpfc⟩, ⟨qpag⟩⟩
  ·rw [if_neg c5] at H
   have c5b0 : decide (a2 < 1) = false := decide_eq_false c5
   clear c5
   (first | rw [c5b0] | (simp only [i64_w, i32_w]; rw [c5b0]) | skip)
   have H' := Aside0.mk H
   clear H
   go_wp2
   go_meet
   case rel => exact ⟨_, (decide (a2 > 8)), q8z4, H', ⟨qpfc⟩, ⟨qpag⟩⟩
 case rest =>
  clear HC4
  try clear p2
  try clear c3
  try clear c5
  try clear c5b0
  obtain ⟨kq, x17_3, rfl, HA, HJ3, HB⟩ := hcut
  cases kq with
  | zero => exact absurd HA.out (by simp [octets_Get.j0])
  | succ kj3 =>
   have H := HA.out
   clear HA
   simp only [octets_Get.j0] at H
   by_cases c6 : x17_3 = true
   ·subst c6
    rw [if_pos rfl] at H
    exact z6_0
   ·replace c6 := Bool.eq_false_iff.mpr c6
    subst c6
    rw [if_neg (show ¬ (false = true) by decide)] at H
    replace H := Option.bind_eq_some_iff.mp H
    obtain ⟨⟨t112, t113⟩, A70, H⟩ := H
    try dsimp only at H
    have A7 := Aside0.mk A70
    clear A70
    rcases t113 with _ | q114
    ·have H1 : (octets_Get.l0 kj3 t112 0 a2 0) = some (r1, r2) := by rw [if_pos (show (none : Option Int).isNone = true by rfl)] at H; exact H
     clear H
     have H := H1
     clear H1
     try simp only [errW_none, errW_some]
     have H' := Aside0.mk H
     clear H
     go_wp2_with (first | ((with_reducible refine gate_callee (f := 48) rfl ?_); refine goesL_ (some 22) rfl rfl Tryz.func48 qg3m rfl #[.string a0, .int .i64 a1, .int .i64 a2] rfl qraq ?_; (with_reducible refine (octets_part.calls a0 a1 a2 t112 none _ A7.out).mono ?_); rintro e w' ⟨rfl, ⟨nd, rfl⟩⟩; refine ⟨_, rfl, ?_⟩; (try simp only [errW_none, errW_some])))
     go_loopg [10, 30] kj3 (fun kq v10 v30 w' => ∃ (x10_2 : Int) (x30_2 : Int), v10 = .int .u64 x10_2 ∧ v30 = .int .i64 x30_2 ∧ Aside0 (octets_Get.l0 kq t112 x10_2 a2 x30_2 = some (r1, r2)) ∧ Aside0 (kq ≤ kj3) ∧ Aside0 (Below w.heap.size w w'))
     case atStart => exact ⟨(0), (0), q8z4, q8z4, H', ⟨Nat.le_refl _⟩, ⟨qpag⟩⟩
     case round =>
      clear H'
      try clear q1
      try clear p2
      try clear c3
      try clear c4
      try clear c5
      try clear c5b0
      try clear c6
      try clear p2
      try clear q114
      obtain ⟨x10_2, x30_2, rfl, rfl, HA, HK2, HB⟩ := hrel
      cases gk with
      | zero => exact absurd HA.out (by simp [octets_Get.l0])
      | succ k2 =>
       have H := HA.out
       clear HA
       simp only [octets_Get.l0] at H
       by_cases c8 : x30_2 < a2
       ·rw [if_pos c8] at H
        have c8b0 : decide (x30_2 < a2) = true := decide_eq_true c8
        clear c8
        by_cases c9 : 0 ≤ x30_2
        ·rw [if_pos c9] at H
         have c9b0 : decide (0 ≤ x30_2) = true := decide_eq_true c9
         clear c9
         by_cases c10 : x30_2 < (t112.size : Int)
         ·rw [if_pos c10] at H
          have c10b0 : decide (x30_2 < (t112.size : Int)) = true := decide_eq_true c10
          clear c10
          have H' := Aside0.mk H
          clear H
          have p11 : 0 ≤ (x30_2 : Int) := of_decide_eq_true qlss
          have q11 : x30_2 < (t112.size : Int) := of_decide_eq_true qlss
          have hx11 := bt_at t112 x30_2
          replace p11 := eq_true p11
          replace q11 := eq_true q11
          go_wp2
          go_roundg k2
          case measure => have := HJ3.out; have := HK2.out; omega
          case rel => exact ⟨(Go.bits .or .u64 (IntKind.u64.wrap (x10_2 * 256)) (IntKind.u64.wrap (bt t112 x30_2))), (wrap64 (x30_2 + 1)), q8z4, q8z4, H', ⟨(by have := HJ3.out; have := HK2.out; omega)⟩, ⟨qpag⟩⟩
         ·rw [if_neg c10] at H
          exact absurd H q6hr
        ·rw [if_neg c9] at H
         exact absurd H q6hr
       ·rw [if_neg c8] at H
        have c8b0 : decide (x30_2 < a2) = false := decide_eq_false c8
        clear c8
        exact z6_0
    ·have H1 : ((octets_number.f (some q114)).bind fun t115 => (some (0, t115))) = some (r1, r2) := by rw [if_neg (show ¬ (some q114).isNone = true by simp)] at H; exact H
     clear H
     have H := H1
     clear H1
     try simp only [errW_none, errW_some]
     replace H := Option.bind_eq_some_iff.mp H
     obtain ⟨t115, A120, H⟩ := H
     try dsimp only at H
     have A12 := Aside0.mk A120
     clear A120
     simp only [Option.some.injEq, Prod.mk.injEq] at H
     obtain ⟨rfl, rfl⟩ := H
     go_wp2_with (first | ((with_reducible refine gate_callee (f := 48) rfl ?_); refine goesL_ (some 22) rfl rfl Tryz.func48 qg3m rfl #[.string a0, .int .i64 a1, .int .i64 a2] rfl qraq ?_; (with_reducible refine (octets_part.calls a0 a1 a2 t112 (some q114) _ A7.out).mono ?_); rintro e w' ⟨rfl, ⟨nd, rfl⟩⟩; refine ⟨_, rfl, ?_⟩; (try simp only [errW_none, errW_some]); have CA12 := fun W hL_ => octets_number.calls (some q114) t115 W hL_ A12.out; try simp only [errW_none, errW_some] at CA12) | (go_at_call 49; (with_reducible refine (CA12 _ ?sideL).mono ?_); (case sideL => exact laid_below HLD.out qpag); rintro e w13 ⟨rfl, hb⟩; replace HB := Aside0.mk (below_step qpag hb); (try clear hb); (try clear hb2); (try clear hk); (try clear hi)))
     go_ret2
     exact ⟨qxu5, qpag⟩
end Go.Proofs.YtgdjekigkimhnaaGreatDoor.P
