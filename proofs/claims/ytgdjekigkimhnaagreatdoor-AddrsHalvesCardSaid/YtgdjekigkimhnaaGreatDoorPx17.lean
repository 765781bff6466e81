-- slim
-- Written by wip/hprint.py (this session's program) through the kit's print program; hand contracts are marked 'by hand'.
import Derived.Test.YtgdjekigkimhnaaGreatDoorAbb
import Derived.Test.YtgdjekigkimhnaaGreatDoorPx0
import Derived.Test.YtgdjekigkimhnaaGreatDoorPx3
import Derived.Test.YtgdjekigkimhnaaGreatDoorPx11
namespace Go.Proofs.YtgdjekigkimhnaaGreatDoor.P
open Go.RowKit Go.Proofs.YtgdjekigkimhnaaGreatDoorW.PrintWords Go.Proofs.YtgdjekigkimhnaaGreatDoorW.PrintLast Go.Proofs.YtgdjekigkimhnaaGreatDoorW.PrintMore
attribute [local go_sem] max2_int min2_int max_two min_two max_three min_three max_four min_four   -- for this text's walks alone
set_option linter.unusedVariables false
set_option linter.unusedSimpArgs false

theorem q7o9 {p : Prop} (h : p := by repeat (first | (with_reducible first | exact HB.out | apply below_alloc | apply pw_below_drewN | apply below_drew1 | refine below_set ?_ GE158.out) | exact HB.out)) : p := h
/-! ### addrs_Net: function 22 -/
def addrs_Net.f (k : Nat) (a0_0 : Int) (a0_1 : Int) : Option (Bool) := if a0_1 ≥ 0 then (if a0_1 ≤ 32 then ((addrs_rest.f k a0_0 a0_1).bind fun t159 => (some ((Go.bits .and .u32 a0_0 t159) == 0))) else (some false)) else (some false)
theorem addrs_Net.mono : ∀ a0 a1 k, LeO (addrs_Net.f k a0 a1) (addrs_Net.f (k + 1) a0 a1) := by
 intro a0 a1 k
 unfold addrs_Net.f
 repeat' first
   | (with_reducible exact addrs_rest.mono _ _ _)
   | (with_reducible exact LeO.refl _)
   | (with_reducible exact LeO.none _)
   | (with_reducible refine LeO.ite ?_ ?_)
   | (with_reducible refine LeO.bind ?_ (fun _ => ?_))
   | exact addrs_rest.mono _ _ _
   | exact LeO.none _
   | refine LeO.ite ?_ ?_
   | refine LeO.bind ?_ (fun _ => ?_)
def addrs_Net.T1 : Bool × List (List Nat × List Nat) := (true, [([], []), ([0], [0]), ([1], [1]), ([2], [2]), ([3], [3]), ([4, 3], [3, 4]), ([5, 3], [3, 5]), ([3, 6], [3, 6]), ([7, 3], [7]), ([8], [8]), ([9, 8], [8, 9]), ([8], [8]), ([11, 8, 8], [8, 11]), ([10, 12, 8], [8, 10, 12]), ([13, 8], [8, 13]), ([8, 14], [8, 14]), ([15, 12, 0, 1, 2, 3, 4, 5, 6, 7, 8, 9, 10, 11, 12, 13, 14, 15], [15])])
def addrs_Net.B1 : List Nat := [0, 1, 3, 7, 15, 31, 63, 127, 255, 511, 1023, 511, 2559, 8191, 16383, 32767, 65535]
theorem addrs_Net.tab1 : rtab .any (opsOf Tryz.f22 1) = addrs_Net.T1 := by kernel_rfl
theorem addrs_Net.bits1 : waitsOk addrs_Net.T1.2 addrs_Net.B1 = true := by kernel_rfl
theorem z17_0 {p : Prop} (h : p := by
 simp only [Act.put, List.setIfInBounds_toArray, List.set_cons_zero, List.set_cons_succ, i64_w, i32_w]
 rfl) : p := h
set_option maxHeartbeats 8000000 in
set_option maxRecDepth 100000 in
theorem addrs_Net.calls (k : Nat) (a0_0 : Int) (a0_1 : Int) (r : Bool) (w : World) (h : addrs_Net.f k a0_0 a0_1 = some r) :
  Calls Tryz.prog 22 #[.agg #[.int .u32 a0_0, .int .i64 a0_1]] w fun e w' => e = .returned (.bool r) ∧ Below w.heap.size w w' := by
 have hu34 := Tryz.underlying34
 have HB := Aside0.mk (Below.refl w.heap.size w)
 have H := h
 unfold addrs_Net.f at H
 clear h
 by_cases c2 : a0_1 ≥ 0
 ·rw [if_pos c2] at H
  have c2b0 : decide (0 ≤ a0_1) = true := decide_eq_true c2
  clear c2
  by_cases c3 : a0_1 ≤ 32
  ·rw [if_pos c3] at H
   have c3b0 : decide (a0_1 ≤ 32) = true := decide_eq_true c3
   clear c3
   replace H := Option.bind_eq_some_iff.mp H
   obtain ⟨t159, A40, H⟩ := H
   try dsimp only at H
   have A4 := Aside0.mk A40
   clear A40
   obtain rfl := Option.some.inj H
   go_enter Tryz.func22, Tryz.ntmps22
   try go_wp2_with (first | ((with_reducible refine gate_dst (N := 1) rfl ?_); refine box_event qgcr (N := 1) qgcr (cs := #[.int .u32 a0_0, .int .i64 a0_1]) (t := 34) qlto ?_; intro gb158 hg w5 hbox hb; have BK158 := Aside0.mk (hbox); have GE158 := Aside0.mk ((qisx : w.heap.size ≤ gb158)); replace HB := Aside0.mk (below_step qpag hb); clear hb hbox hg))
   replace BK158 := Aside0.mk (blk_drew BK158.out)
   replace HB := Aside0.mk (below_drew1 HB.out)
   refine start_ (n := 17) (S := fun w' => w'.cell? ⟨gb158, 0, none⟩ = some (.int .u32 a0_0) ∧ w'.cell? ⟨gb158, 1, none⟩ = some (.int .i64 a0_1)) (ds := []) (ba 17 0) qg3m rfl rfl ⟨(blk_cell BK158.out 0).trans rfl, (blk_cell BK158.out 1).trans rfl⟩ (fun hHeld => ?_); refine with_tabW addrs_Net.tab1 addrs_Net.bits1 (fun HT_ HW_ => ?_)
   generalize w5.drew = w6 at BK158 HB hHeld ⊢
   refine pu_139 (i := 0) (N := some 3) (ba 17 1) ?_
   refine tk_ca0 (i := 1) (N := some 4) (ba 17 3) hHeld ?_
   refine pu_139 (i := 2) (N := some 5) (ba 17 7) ?_
   refine pu_139 (i := 3) (N := some 6) (ba 17 15) ?_
   refine pu_139 (i := 4) (N := some 7) (ba 17 31) ?_
   refine tk_ca0 (i := 5) (N := some 8) (ba 17 63) hHeld ?_
   refine pu_139 (i := 6) (N := some 9) (ba 17 127) ?_
   refine pu_139 (i := 7) (N := some 10) (ba 17 255) ?_
   refine pu_139 (i := 8) (N := some 11) (ba 17 511) ?_
   refine pu_139 (i := 9) (N := some 12) (ba 17 1023) ?_
   refine tk_ca0 (i := 10) (N := some 13) (ba 17 2047) hHeld ?_
   refine tk_ca0 (i := 11) (N := some 14) (ba 17 4095) hHeld ?_
   refine one_ (i := 12) (N := some 15) (ba 17 8191) rfl rfl (one_of HT_.out qg3m) qomw (fun K hK => ?_)
   refine goes_ Tryz.func44 qg3m rfl #[.agg #[.int .u32 a0_0, .int .i64 a0_1]] qlo1 rfl rfl qraq ?_
   with_reducible refine (addrs_rest.calls k a0_0 a0_1 t159 _ A4.out).mono ?_
   rintro e w7 ⟨rfl, hb⟩
   refine ⟨_, rfl, ?_⟩
   replace BK158 := Aside0.mk (blk_below (g := gb158) (o := .cells #[.int .u32 a0_0, .int .i64 a0_1] 34 (0, 0)) (by (with_reducible repeat (first | refine blk_drewN ?_ _ | refine blk_drew ?_ | refine blk_alloc ?_ _)); exact BK158.out) hb)
   replace HB := Aside0.mk (below_step q7o9 hb)
   (try clear hb)
   (try clear hb2)
   (try clear hk)
   (try clear hi)
   refine hK.out _ _ (by exact ⟨(blk_cell BK158.out 0).trans rfl, (blk_cell BK158.out 1).trans rfl⟩) (fun hHeld => ?_)
   clear hK K
   refine norm_ (a' := ?_) ?_ ?_
   rotate_left
   ·show Act.put _ (some 15) _ = _
    simp only [Act.put, List.setIfInBounds_toArray, List.set_cons_zero, List.set_cons_succ, i64_w, i32_w]
    rfl
   refine pu_139 (i := 13) (N := some 16) (ba 17 16383) ?_
   refine pu_139 (i := 14) (N := some 17) (ba 17 32767) ?_
   refine pu_139 (i := 15) (N := some 18) (ba 17 65535) ?_
   refine pu_139 (i := 16) (N := some 2) (ba 17 131071) ?_
   refine done_ (done_of HT_.out qg3m) ?_
   try go_wp2
   go_ret
   exact ⟨qxu5, q7o9⟩
  ·rw [if_neg c3] at H
   have c3b0 : decide (a0_1 ≤ 32) = false := decide_eq_false c3
   clear c3
   obtain rfl := Option.some.inj H
   go_enter Tryz.func22, Tryz.ntmps22
   try go_wp2_with (first | ((with_reducible refine gate_dst (N := 1) rfl ?_); refine box_event qgcr (N := 1) qgcr (cs := #[.int .u32 a0_0, .int .i64 a0_1]) (t := 34) qlto ?_; intro gb158 hg w8 hbox hb; have BK158 := Aside0.mk (hbox); have GE158 := Aside0.mk ((qisx : w.heap.size ≤ gb158)); replace HB := Aside0.mk (below_step qpag hb); clear hb hbox hg))
   replace BK158 := Aside0.mk (blk_drew BK158.out)
   replace HB := Aside0.mk (below_drew1 HB.out)
   refine start_ (n := 17) (S := fun w' => w'.cell? ⟨gb158, 0, none⟩ = some (.int .u32 a0_0) ∧ w'.cell? ⟨gb158, 1, none⟩ = some (.int .i64 a0_1)) (ds := []) (ba 17 0) qg3m rfl rfl ⟨(blk_cell BK158.out 0).trans rfl, (blk_cell BK158.out 1).trans rfl⟩ (fun hHeld => ?_); refine with_tabW addrs_Net.tab1 addrs_Net.bits1 (fun HT_ HW_ => ?_)
   generalize w8.drew = w9 at BK158 HB hHeld ⊢
   refine pu_139 (i := 0) (N := some 3) (ba 17 1) ?_
   refine tk_ca0 (i := 1) (N := some 4) (ba 17 3) hHeld ?_
   refine pu_139 (i := 2) (N := some 5) (ba 17 7) ?_
   refine pu_139 (i := 3) (N := some 6) (ba 17 15) ?_
   refine pu_139 (i := 4) (N := some 7) (ba 17 31) ?_
   refine tk_ca0 (i := 5) (N := some 8) (ba 17 63) hHeld ?_
   refine pu_139 (i := 6) (N := some 9) (ba 17 127) ?_
   refine pu_139 (i := 7) (N := some 10) (ba 17 255) ?_
   refine pu_139 (i := 8) (N := some 11) (ba 17 511) ?_
   refine pure_ (i := 9) (N := some 12) (v := undef) (a' := ?_) (ba 17 1023) rfl rfl (any_of HT_.out qg3m) (fun _ _ _ h => h) (Or.inr ⟨quos, rfl⟩) ?_ ?_
   rotate_left
   ·exact z17_0
   refine pure_ (i := 10) (N := some 13) (v := undef) (a' := ?_) (ba 17 2047) rfl rfl (any_of HT_.out qg3m) (fun _ _ _ h => h) (Or.inr ⟨quos, rfl⟩) ?_ ?_
   rotate_left
   ·exact z17_0
   refine pure_ (i := 11) (N := some 14) (v := undef) (a' := ?_) (ba 17 4095) rfl rfl (any_of HT_.out qg3m) (fun _ _ _ h => h) (Or.inr ⟨quos, rfl⟩) ?_ ?_
   rotate_left
   ·exact z17_0
   refine pure_ (i := 12) (N := some 15) (v := undef) (a' := ?_) (ba 17 8191) rfl rfl (any_of HT_.out qg3m) (fun _ _ _ h => h) (Or.inr ⟨quos, rfl⟩) ?_ ?_
   rotate_left
   ·exact z17_0
   refine pure_ (i := 13) (N := some 16) (v := undef) (a' := ?_) (ba 17 16383) rfl rfl (any_of HT_.out qg3m) (fun _ _ _ h => h) (Or.inr ⟨quos, rfl⟩) ?_ ?_
   rotate_left
   ·exact z17_0
   refine pure_ (i := 14) (N := some 17) (v := undef) (a' := ?_) (ba 17 32767) rfl rfl (any_of HT_.out qg3m) (fun _ _ _ h => h) (Or.inr ⟨quos, rfl⟩) ?_ ?_
   rotate_left
   ·exact z17_0
   refine pu_139 (i := 15) (N := some 18) (ba 17 65535) ?_
   refine pu_139 (i := 16) (N := some 2) (ba 17 131071) ?_
   refine done_ (done_of HT_.out qg3m) ?_
   try go_wp2
   go_ret
   exact ⟨qxu5, q7o9⟩
 ·rw [if_neg c2] at H
  have c2b0 : decide (0 ≤ a0_1) = false := decide_eq_false c2
  clear c2
  obtain rfl := Option.some.inj H
  go_enter Tryz.func22, Tryz.ntmps22
  try go_wp2_with (first | ((with_reducible refine gate_dst (N := 1) rfl ?_); refine box_event qgcr (N := 1) qgcr (cs := #[.int .u32 a0_0, .int .i64 a0_1]) (t := 34) qlto ?_; intro gb158 hg w10 hbox hb; have BK158 := Aside0.mk (hbox); have GE158 := Aside0.mk ((qisx : w.heap.size ≤ gb158)); replace HB := Aside0.mk (below_step qpag hb); clear hb hbox hg))
  replace BK158 := Aside0.mk (blk_drew BK158.out)
  replace HB := Aside0.mk (below_drew1 HB.out)
  refine start_ (n := 17) (S := fun w' => w'.cell? ⟨gb158, 0, none⟩ = some (.int .u32 a0_0) ∧ w'.cell? ⟨gb158, 1, none⟩ = some (.int .i64 a0_1)) (ds := []) (ba 17 0) qg3m rfl rfl ⟨(blk_cell BK158.out 0).trans rfl, (blk_cell BK158.out 1).trans rfl⟩ (fun hHeld => ?_); refine with_tabW addrs_Net.tab1 addrs_Net.bits1 (fun HT_ HW_ => ?_)
  generalize w10.drew = w11 at BK158 HB hHeld ⊢
  refine pu_139 (i := 0) (N := some 3) (ba 17 1) ?_
  refine tk_ca0 (i := 1) (N := some 4) (ba 17 3) hHeld ?_
  refine pu_139 (i := 2) (N := some 5) (ba 17 7) ?_
  refine pu_139 (i := 3) (N := some 6) (ba 17 15) ?_
  refine pure_ (i := 4) (N := some 7) (v := undef) (a' := ?_) (ba 17 31) rfl rfl (any_of HT_.out qg3m) (fun _ _ _ h => h) (Or.inr ⟨quos, rfl⟩) ?_ ?_
  rotate_left
  ·exact z17_0
  refine pure_ (i := 5) (N := some 8) (v := undef) (a' := ?_) (ba 17 63) rfl rfl (any_of HT_.out qg3m) (fun _ _ _ h => h) (Or.inr ⟨quos, rfl⟩) ?_ ?_
  rotate_left
  ·exact z17_0
  refine pure_ (i := 6) (N := some 9) (v := undef) (a' := ?_) (ba 17 127) rfl rfl (any_of HT_.out qg3m) (fun _ _ _ h => h) (Or.inr ⟨quos, rfl⟩) ?_ ?_
  rotate_left
  ·exact z17_0
  refine pu_139 (i := 7) (N := some 10) (ba 17 255) ?_
  refine pu_139 (i := 8) (N := some 11) (ba 17 511) ?_
  refine pure_ (i := 9) (N := some 12) (v := undef) (a' := ?_) (ba 17 1023) rfl rfl (any_of HT_.out qg3m) (fun _ _ _ h => h) (Or.inr ⟨quos, rfl⟩) ?_ ?_
  rotate_left
  ·exact z17_0
  refine pure_ (i := 10) (N := some 13) (v := undef) (a' := ?_) (ba 17 2047) rfl rfl (any_of HT_.out qg3m) (fun _ _ _ h => h) (Or.inr ⟨quos, rfl⟩) ?_ ?_
  rotate_left
  ·exact z17_0
  refine pure_ (i := 11) (N := some 14) (v := undef) (a' := ?_) (ba 17 4095) rfl rfl (any_of HT_.out qg3m) (fun _ _ _ h => h) (Or.inr ⟨quos, rfl⟩) ?_ ?_
  rotate_left
  ·exact z17_0
  refine pure_ (i := 12) (N := some 15) (v := undef) (a' := ?_) (ba 17 8191) rfl rfl (any_of HT_.out qg3m) (fun _ _ _ h => h) (Or.inr ⟨quos, rfl⟩) ?_ ?_
  rotate_left
  ·exact z17_0
  refine pure_ (i := 13) (N := some 16) (v := undef) (a' := ?_) (ba 17 16383) rfl rfl (any_of HT_.out qg3m) (fun _ _ _ h => h) (Or.inr ⟨quos, rfl⟩) ?_ ?_
  rotate_left
  ·exact z17_0
  refine pure_ (i := 14) (N := some 17) (v := undef) (a' := ?_) (ba 17 32767) rfl rfl (any_of HT_.out qg3m) (fun _ _ _ h => h) (Or.inr ⟨quos, rfl⟩) ?_ ?_
  rotate_left
  ·exact z17_0
  refine pu_139 (i := 15) (N := some 18) (ba 17 65535) ?_
  refine pu_139 (i := 16) (N := some 2) (ba 17 131071) ?_
  refine done_ (done_of HT_.out qg3m) ?_
  try go_wp2
  go_ret
  exact ⟨qxu5, q7o9⟩
end Go.Proofs.YtgdjekigkimhnaaGreatDoor.P
namespace Go.Proofs.YtgdjekigkimhnaaGreatDoor.P
open Go.RowKit Go.Proofs.YtgdjekigkimhnaaGreatDoorW.PrintWords Go.Proofs.YtgdjekigkimhnaaGreatDoorW.PrintLast Go.Proofs.YtgdjekigkimhnaaGreatDoorW.PrintMore
attribute [local go_sem] max2_int min2_int max_two min_two max_three min_three max_four min_four   -- for this text's walks alone
set_option linter.unusedVariables false
set_option linter.unusedSimpArgs false

/-! ### addrs_Ip: function 16 -/
def addrs_Ip.l0 : Nat → Int → List ByteArray → Int → Option (ByteArray)
 | 0, _, _, _ => none
 | k + 1, x0, x3, x5 => if x5 < 4 then (if 0 ≤ (wrap64 (8 * (wrap64 (3 - x5)))) then ((strconv_Itoa.f ((shr .u32 x0 (wrap64 (8 * (wrap64 (3 - x5))))) % 256)).bind fun t135 => (if x3.length < 8796093022208 then (addrs_Ip.l0 k x0 (x3 ++ [t135]) (wrap64 (x5 + 1))) else (none))) else (none)) else ((strings_Join.f x3 (⟨#[46]⟩ : ByteArray)).bind fun t139 => (some t139))
def addrs_Ip.f (k : Nat) (a0 : Int) : Option (ByteArray) := addrs_Ip.l0 k a0 ([] : List ByteArray) 0
theorem addrs_Ip.mono_l : ∀ k, (∀ y0 y1 y2, LeO (addrs_Ip.l0 k y0 y1 y2) (addrs_Ip.l0 (k + 1) y0 y1 y2))
 | 0 => fun _ _ _ r h => by simp [addrs_Ip.l0] at h
 | k + 1 => by
  have ih0 := addrs_Ip.mono_l k
  ·intro y0 y1 y2
   unfold addrs_Ip.l0
   repeat' first
   | (with_reducible exact ih0 _ _ _)
   | (with_reducible exact LeO.refl _)
   | (with_reducible exact LeO.none _)
   | (with_reducible refine LeO.ite ?_ ?_)
   | (with_reducible refine LeO.bind ?_ (fun _ => ?_))
   | exact ih0 _ _ _
   | exact LeO.none _
   | refine LeO.ite ?_ ?_
   | refine LeO.bind ?_ (fun _ => ?_)
theorem addrs_Ip.mono : ∀ a0 k, LeO (addrs_Ip.f k a0) (addrs_Ip.f (k + 1) a0) := by
 intro a0 k
 have ih0 := addrs_Ip.mono_l k
 unfold addrs_Ip.f
 repeat' first
   | (with_reducible exact ih0 _ _ _)
   | (with_reducible exact LeO.refl _)
   | (with_reducible exact LeO.none _)
   | (with_reducible refine LeO.ite ?_ ?_)
   | (with_reducible refine LeO.bind ?_ (fun _ => ?_))
   | exact ih0 _ _ _
   | exact LeO.none _
   | refine LeO.ite ?_ ?_
   | refine LeO.bind ?_ (fun _ => ?_)
set_option maxHeartbeats 8000000 in
set_option maxRecDepth 100000 in
theorem addrs_Ip.calls (k : Nat) (a0 : Int) (r : ByteArray) (w : World) (hL : Laid w) (h : addrs_Ip.f k a0 = some r) :
  Calls Tryz.prog 16 #[.int .u32 a0] w fun e w' => e = .returned (.string r) ∧ Below w.heap.size w w' := by
 have HLD := Aside0.mk hL
 clear hL
 have HB := Aside0.mk (Below.refl w.heap.size w)
 have H := h
 unfold addrs_Ip.f at H
 clear h
 have H' := Aside0.mk H
 clear H
 go_enter Tryz.func16, Tryz.ntmps16
 go_wp2
 go_loopg [3, 5] k (fun kq v3 v5 w' => ∃ (x3_1 : List ByteArray) (x5_1 : Int), v5 = .int .i64 x5_1 ∧ Aside0 (addrs_Ip.l0 kq a0 x3_1 x5_1 = some r) ∧ Aside0 (kq ≤ k) ∧ Aside0 (Kd.R Kd.string 9 w' w.heap.size (fun _ => True) v3 x3_1) ∧ Aside0 (Below w.heap.size w w'))
 case atStart => exact ⟨(([] : List ByteArray)), (0), q8z4, H', ⟨Nat.le_refl _⟩, ⟨qrh1⟩, ⟨qpag⟩⟩
 case round =>
  clear H'
  try clear c1
  obtain ⟨x3_1, x5_1, rfl, HA, HK1, HO_3, HB⟩ := hrel
  cases gk with
  | zero => exact absurd HA.out (by simp [addrs_Ip.l0])
  | succ k1 =>
   have H := HA.out
   clear HA
   simp only [addrs_Ip.l0] at H
   by_cases c2 : x5_1 < 4
   ·rw [if_pos c2] at H
    have c2b0 : decide (x5_1 < 4) = true := decide_eq_true c2
    clear c2
    obtain ⟨ji3, hji3⟩ : ∃ j_ : Int, (wrap64 (8 * (wrap64 (3 - x5_1)))) = j_ := ⟨_, rfl⟩
    replace H : (if 0 ≤ (ji3) then ((strconv_Itoa.f ((shr .u32 a0 (ji3)) % 256)).bind fun t135 => (if x3_1.length < 8796093022208 then (addrs_Ip.l0 k1 a0 (x3_1 ++ [t135]) (wrap64 (x5_1 + 1))) else (none))) else (none)) = some r := by first | (rw [hji3] at H; exact H) | (simp only [hji3] at H ⊢; exact H)
    have hji3w : (IntKind.i64.wrap (8 * (wrap64 (3 - x5_1)))) = ji3 := (i64_w _).trans hji3
    by_cases c4 : 0 ≤ (ji3)
    ·rw [if_pos c4] at H
     have c4b0 := eq_true c4
     have c4b1 : decide (0 ≤ (ji3)) = true := decide_eq_true c4
     clear c4
     obtain ⟨ji5, hji5⟩ : ∃ j_ : Int, (shr .u32 a0 (ji3)) = j_ := ⟨_, rfl⟩
     replace H : ((strconv_Itoa.f ((ji5) % 256)).bind fun t135 => (if x3_1.length < 8796093022208 then (addrs_Ip.l0 k1 a0 (x3_1 ++ [t135]) (wrap64 (x5_1 + 1))) else (none))) = some r := by first | (rw [hji5] at H; exact H) | (simp only [hji5] at H ⊢; exact H)
     have hji5_ : (a0 / 2 ^ min (ji3).toNat 32) = ji5 := hji5
     have hji5z : (ji3) ≤ 32 → (a0 / 2 ^ (ji3).toNat) = ji5 := shr_small hji5
     replace H := Option.bind_eq_some_iff.mp H
     obtain ⟨t135, A60, H⟩ := H
     try dsimp only at H
     have A6 := Aside0.mk A60
     clear A60
     by_cases c7 : x3_1.length < 8796093022208
     ·rw [if_pos c7] at H
      have LMc7 := Aside0.mk c7
      clear c7
      obtain ⟨y136, hy136⟩ : ∃ y_ : List ByteArray, y_ = (x3_1 ++ [t135]) := ⟨_, rfl⟩
      replace H : (addrs_Ip.l0 k1 a0 y136 (wrap64 (x5_1 + 1))) = some r := by first | (rw [hy136]; with_reducible exact H) | (have H2_ := (Option.bind_some _ _).symm.trans H; rw [hy136]; with_reducible exact H2_) | (have H2_ := (Option.bind_some _ _).symm.trans H; with_reducible exact H2_) | with_reducible exact H | (rw [hy136]; exact H) | exact H
      have Ny136 := Aside0.mk hy136
      clear hy136
      have H' := Aside0.mk H
      clear H
      go_wp2_with (first | ((with_reducible refine gate_callee (f := 42) rfl ?_); refine goesL_ (some 16) rfl rfl Tryz.func42 qg3m rfl #[.int .i64 ((ji5) % 256)] rfl (by (try simp only [List.map_toArray, List.map_cons, List.map_nil]); first | done | (simp only [hji5]; rfl) | rfl | (simp only [List.length_drop, List.length_take]; rfl)) ?_; (with_reducible refine (strconv_Itoa.calls ((ji5) % 256) t135 _ ?sideL A6.out).mono ?_); (case sideL => exact laid_below HLD.out qpag); rintro e w8 ⟨rfl, hb⟩; refine ⟨_, rfl, ?_⟩; replace HO_3 := Aside0.mk (Kd.R_below qzej hb); replace HB := Aside0.mk (below_step qpag hb); (try clear hb); (try clear hb2); (try clear hk); (try clear hi)) | ((with_reducible refine gate_builtin (b := .append) (xs := #[.tmp 8, .tmp 17]) rfl ?_); at_builtin; refine Kd.R_append Kd.string (w0 := w) w.heap.size rfl (.tmp 8) (.tmp 17) 49 9 (.string ⟨#[]⟩) 16 rfl Tryz.underlying49 info9 rfl qomw q1jy u3 x3_1 t135 [.string t135] (fun _ => True) (fun _ => False) rfl rfl ?aP (fun _ hk => hk.elim) ?aF ?aO ?aB ?aS ?aL ?_; (case aP => exact rfl); (case aB => exact qpag); (case aF => exact (fun _ _ => trivial)); (case aO => exact qzej); (case aS => exact (below_size qpag)); (case aL => have := LMc7.out; omega); intro v137 w9 ho hb hg hat; rw [← Ny136.out] at ho; have n0_ := Aside0.mk (hb); have n1_ := Aside0.mk (ho); clear HB; clear HO_3; have HB := n0_; have HO138 := n1_; clear n0_ n1_; clear ho hb hg hat))
      go_roundg k1
      case measure => have := HK1.out; omega
      case rel => exact ⟨(y136), (wrap64 (x5_1 + 1)), q8z4, H', ⟨qi8h⟩, ⟨(by (with_reducible repeat (first | apply Kd.R_alloc | apply Kd.R_drewN | apply Kd.R_drew)); exact HO138.out)⟩, ⟨qpag⟩⟩
     ·rw [if_neg c7] at H
      exact absurd H q6hr
    ·rw [if_neg c4] at H
     exact absurd H q6hr
   ·rw [if_neg c2] at H
    have c2b0 : decide (x5_1 < 4) = false := decide_eq_false c2
    clear c2
    replace H := Option.bind_eq_some_iff.mp H
    obtain ⟨t139, A100, H⟩ := H
    try dsimp only at H
    have A10 := Aside0.mk A100
    clear A100
    obtain rfl := Option.some.inj H
    obtain ⟨Ao11, co11, eo11⟩ := Kd.R_slice HO_3.out
    subst eo11
    go_wp2_with (first | ((with_reducible refine gate_callee (f := 39) rfl ?_); refine goesL_ (some 21) rfl rfl Tryz.func39 qg3m rfl #[.slice Ao11 x3_1.length co11, .string (⟨#[46]⟩ : ByteArray)] rfl qraq ?_; (with_reducible refine (strings_Join.calls _ _ x3_1 (⟨#[46]⟩ : ByteArray) t139 _ ?side1 ?side2 A10.out).mono ?_); (case side1 => repeat (first | exact (Kd.R_reads' HO_3.out).2.2 | (with_reducible refine Kd.C_alloc ?_ _) | (with_reducible refine Kd.C_drewN ?_ _) | (with_reducible refine Kd.C_drew ?_))); (case side2 => exact (Kd.R_reads' HO_3.out).2.1); rintro e w12 ⟨rfl, hb⟩; refine ⟨_, rfl, ?_⟩; replace HO_3 := Aside0.mk (Kd.R_below qzej hb); replace HB := Aside0.mk (below_step qpag hb); (try clear hb); (try clear hb2); (try clear hk); (try clear hi)))
    go_ret
    exact ⟨qxu5, qpag⟩

/-! ### strings_Split: function 35, by hand -/
-- IMPORT Derived.Test.YtgdjekigkimhnaaGreatDoorLaid
-- IMPORT Derived.Test.YtgdjekigkimhnaaGreatDoorShelf
def splitL (s sep : ByteArray) : List ByteArray := Lib.splitB sep 0 (Lib.countB s sep) s
def strings_Split.f (a0 a1 : ByteArray) : Option (List ByteArray) :=
 if a0.size ≤ 1000000 ∧ 1 ≤ a1.size then some (splitL a0 a1) else none
theorem strings_Split.calls (a0 a1 : ByteArray) (r : List ByteArray) (w : World) (hL : Laid w) (h : strings_Split.f a0 a1 = some r) :
  Calls Tryz.prog 35 #[.string a0, .string a1] w fun e w' => ∃ v0_ : Value, e = .returned (v0_) ∧ Kd.R Kd.string 9 w' w.heap.size (fun _ => True) v0_ r ∧ Below w.heap.size w w' := by
 unfold strings_Split.f at h
 split at h
 ·rename_i hc
  obtain ⟨h0, h1⟩ := hc
  obtain rfl := Option.some.inj h
  obtain ⟨m, hm⟩ := hL.ml
  have e : (splitL a0 a1).length = Lib.countB a0 a1 + 1 := Lib.splitB_all a1 h1 0 _ a0 rfl
  have hle := Lib.countB_le a1 h1 a0.size a0 (Nat.le_refl _)
  refine (Tryz.strings_Split a0 a1 m w q1jy hm h1).mono ?_
  rintro e1 w' ⟨rfl, rfl⟩
  refine ⟨_, rfl, ?_, below_alloc (Below.refl _ _) _⟩
  rw [← e]
  exact ⟨fun _ _ => trivial, OwnRow.lit w w.heap.size (ps := splitL a0 a1) (inner := (splitL a0 a1).map Value.string) (Kd.reps_scalar _) (Nat.le_refl _) (by rw [e]; omega)⟩
 ·cases h

/-! ### strconv_Atoi: function 36, by hand -/
-- IMPORT Derived.Test.YtgdjekigkimhnaaGreatDoorLaid
-- IMPORT Derived.Test.YtgdjekigkimhnaaGreatDoorShelf
def atoiV (l : List UInt8) : Int := match Lib.atoiAll l with
 | .ok v => v
 | .range => Lib.atoiSat l
 | _ => 0
def strconv_Atoi.f (a0 : ByteArray) : Option (Int × Option Int) := if a0.size ≤ 1000000 then some (atoiV a0.data.toList, none) else none
theorem strconv_Atoi.calls (a0 : ByteArray) (r1 : Int) (r2 : Option Int) (w : World) (hL : Laid w) (h : strconv_Atoi.f a0 = some (r1, r2)) :
  Calls Tryz.prog 36 #[.string a0] w fun e w' => (∃ ev, e = .returned (.tuple #[.int .i64 r1, ev])) ∧ Below w.heap.size w w' := by
 unfold strconv_Atoi.f at h
 split at h
 ·rename_i h0
  obtain ⟨rfl, rfl⟩ := Prod.mk.inj (Option.some.inj h)
  unfold atoiV
  cases hv : Lib.atoiAll a0.data.toList with
  | ok v =>
   refine (Tryz.strconv_Atoi_ok a0 q1jy v hv w).mono ?_
   rintro e w' ⟨rfl, hw⟩
   refine ⟨⟨_, rfl⟩, ?_⟩
   rcases hw with rfl | ⟨t, rfl⟩
   ·exact Below.refl _ _
   ·exact Joins.below_bytesWorld _ w _ _ (Nat.le_refl _)
  | range =>
   obtain ⟨ev, h1, h2⟩ := hL.rng
   refine (Tryz.strconv_Atoi_range a0 q1jy hv ev w h1 h2).mono ?_
   rintro e w' ⟨N, rfl, _, _, hb⟩
   exact ⟨⟨_, rfl⟩, hb⟩
  | _ =>
   obtain ⟨ev, h1, h2⟩ := hL.syn
   refine (Tryz.strconv_Atoi_syntax a0 q1jy (fun v hq => by rw [hv] at hq; cases hq) (fun hq => by rw [hv] at hq; cases hq) ev w h1 h2).mono ?_
   rintro e w' ⟨N, rfl, _, _, hb⟩
   exact ⟨⟨_, rfl⟩, hb⟩
 ·cases h

end Go.Proofs.YtgdjekigkimhnaaGreatDoor.P
