-- slim
-- Written by wip/hprint.py (this session's program) through the kit's print program; hand contracts are marked 'by hand'.
import Derived.Test.YtbfjlhjfpmgplaaDoorAbb
import Derived.Test.YtbfjlhjfpmgplaaDoorRow
import Derived.Test.YtbfjlhjfpmgplaaDoorPx0
namespace Go.Proofs.YtbfjlhjfpmgplaaDoor.P
open Go.RowKit Go.Proofs.YtbfjlhjfpmgplaaDoorW.PrintWords Go.Proofs.YtbfjlhjfpmgplaaDoorW.PrintLast Go.Proofs.YtbfjlhjfpmgplaaDoorW.PrintMore
attribute [local go_sem] max2_int min2_int max_two min_two max_three min_three max_four min_four   -- for this text's walks alone
set_option linter.unusedVariables false
set_option linter.unusedSimpArgs false

/-! ### stringslite_HasPrefix: function 35 -/
def stringslite_HasPrefix.f (a0 : ByteArray) (a1 : ByteArray) : Option (Bool) := if (a0.size : Int) ≥ (a1.size : Int) then (if 0 ≤ (a1.size : Int) then (if (a1.size : Int) ≤ (a0.size : Int) then (some ((a0.extract 0 ((a1.size : Int) : Int).toNat).toList == a1.toList)) else (none)) else (none)) else (some false)
theorem z9_0 {p : Prop} (h : p := by
 obtain rfl := Option.some.inj H
 go_enter Tryd.func35, Tryd.ntmps35
 go_wp2
 go_ret
 exact ⟨by first | rfl | (simp; done) | (simp [*]; done), by repeat (first | exact Drawn0.refl _ | apply Drawn0.step)⟩) : p := h
set_option maxHeartbeats 8000000 in
set_option maxRecDepth 100000 in
theorem stringslite_HasPrefix.calls (a0 : ByteArray) (a1 : ByteArray) (r : Bool) (w : World) (h : stringslite_HasPrefix.f a0 a1 = some r) :
  Calls Tryd.prog 35 #[.string a0, .string a1] w fun e w' => e = .returned (.bool r) ∧ Drawn0 w w' := by
 have H : (if (a0.size : Int) ≥ (a1.size : Int) then (if 0 ≤ (a1.size : Int) then (if (a1.size : Int) ≤ (a0.size : Int) then (some ((a0.extract 0 ((a1.size : Int) : Int).toNat).toList == a1.toList)) else (none)) else (none)) else (some false)) = some r := h
 clear h
 by_cases c3 : (a0.size : Int) ≥ (a1.size : Int)
 ·rw [if_pos c3] at H
  have c3b0 : decide ((a1.size : Int) ≤ (a0.size : Int)) = true := decide_eq_true c3
  have c3b1 : decide (a1.size ≤ a0.size) = true := decide_eq_true (Int.ofNat_le.mp c3)
  clear c3
  by_cases c4 : 0 ≤ (a1.size : Int)
  ·rw [if_pos c4] at H
   have c4b0 := eq_true c4
   have c4b1 : decide (0 ≤ (a1.size : Int)) = true := decide_eq_true c4
   clear c4
   by_cases c5 : (a1.size : Int) ≤ (a0.size : Int)
   ·rw [if_pos c5] at H
    have c5b0 := eq_true c5
    have c5b1 : decide ((a1.size : Int) ≤ (a0.size : Int)) = true := decide_eq_true c5
    clear c5
    exact z9_0
   ·rw [if_neg c5] at H
    exact absurd H qb
  ·rw [if_neg c4] at H
   exact absurd H qb
 ·rw [if_neg c3] at H
  have c3b0 : decide ((a1.size : Int) ≤ (a0.size : Int)) = false := decide_eq_false c3
  have c3b1 : decide (a1.size ≤ a0.size) = false := decide_eq_false (fun h => c3 (Int.ofNat_le.mpr h))
  clear c3
  exact z9_0
/-! ### strings_HasPrefix: function 26 -/
def strings_HasPrefix.f (a0 : ByteArray) (a1 : ByteArray) : Option (Bool) := (stringslite_HasPrefix.f a0 a1).bind fun t130 => (some t130)
set_option maxHeartbeats 8000000 in
set_option maxRecDepth 100000 in
theorem strings_HasPrefix.calls (a0 : ByteArray) (a1 : ByteArray) (r : Bool) (w : World) (h : strings_HasPrefix.f a0 a1 = some r) :
  Calls Tryd.prog 26 #[.string a0, .string a1] w fun e w' => e = .returned (.bool r) ∧ Drawn0 w w' := by
 have H : ((stringslite_HasPrefix.f a0 a1).bind fun t130 => (some t130)) = some r := h
 clear h
 replace H := Option.bind_eq_some_iff.mp H
 obtain ⟨t130, A30, H⟩ := H
 try dsimp only at H
 have A3 := Aside0.mk A30
 clear A30
 obtain rfl := Option.some.inj H
 go_enter Tryd.func26, Tryd.ntmps26
 go_wp2_with (first | ((with_reducible refine gate_callee (f := 35) rfl ?_); refine goesL_ (some 7) rfl rfl Tryd.func35 qf rfl #[.string a0, .string a1] rfl qbi ?_; (with_reducible refine (stringslite_HasPrefix.calls a0 a1 t130 _ A3.out).mono ?_); rintro e w' ⟨rfl, ⟨nd, rfl⟩⟩; refine ⟨_, rfl, ?_⟩))
 go_ret
 exact ⟨by first | rfl | (simp; done) | (simp [*]; done), by repeat (first | exact Drawn0.refl _ | apply Drawn0.step)⟩
/-! ### bpdu_quick: function 27 -/
def bpdu_quick.f (a0_0 : Int) (a0_1 : Bool) (a0_2 : Bool) (a0_3 : Bool) (a0_4 : Bool) (a0_5 : Bool) (a0_6 : Bool) (a0_7 : Int) (a0_8 : Int) (a0_9 : Int) (a0_10 : Int) (a0_11 : Int) (a0_12 : Int) (a0_13 : Int) (a0_14 : Int) (a0_15 : Int) (a1 : Int) : Option (Int × Bool × Bool × Bool × Bool × Bool × Bool × Int × Int × Int × Int × Int × Int × Int × Int × Int) := some (2, a0_1, ((Go.bits .and .u8 a1 2) != 0), ((Go.bits .and .u8 a1 16) != 0), ((Go.bits .and .u8 a1 32) != 0), ((Go.bits .and .u8 a1 64) != 0), a0_6, (Int.tdiv a1 4) % 4, a0_8, a0_9, a0_10, a0_11, a0_12, a0_13, a0_14, a0_15)
set_option maxHeartbeats 8000000 in
set_option maxRecDepth 100000 in
theorem bpdu_quick.calls (a0_0 : Int) (a0_1 : Bool) (a0_2 : Bool) (a0_3 : Bool) (a0_4 : Bool) (a0_5 : Bool) (a0_6 : Bool) (a0_7 : Int) (a0_8 : Int) (a0_9 : Int) (a0_10 : Int) (a0_11 : Int) (a0_12 : Int) (a0_13 : Int) (a0_14 : Int) (a0_15 : Int) (a1 : Int) (r1 : Int) (r2 : Bool) (r3 : Bool) (r4 : Bool) (r5 : Bool) (r6 : Bool) (r7 : Bool) (r8 : Int) (r9 : Int) (r10 : Int) (r11 : Int) (r12 : Int) (r13 : Int) (r14 : Int) (r15 : Int) (r16 : Int) (w : World) (h : bpdu_quick.f a0_0 a0_1 a0_2 a0_3 a0_4 a0_5 a0_6 a0_7 a0_8 a0_9 a0_10 a0_11 a0_12 a0_13 a0_14 a0_15 a1 = some (r1, r2, r3, r4, r5, r6, r7, r8, r9, r10, r11, r12, r13, r14, r15, r16)) :
  Calls Tryd.prog 27 #[.agg #[.int .i64 a0_0, .bool a0_1, .bool a0_2, .bool a0_3, .bool a0_4, .bool a0_5, .bool a0_6, .int .i64 a0_7, .int .u64 a0_8, .int .i64 a0_9, .int .u64 a0_10, .int .i64 a0_11, .int .i64 a0_12, .int .i64 a0_13, .int .i64 a0_14, .int .i64 a0_15], .int .u8 a1] w fun e w' => e = .returned (.agg #[.int .i64 r1, .bool r2, .bool r3, .bool r4, .bool r5, .bool r6, .bool r7, .int .i64 r8, .int .u64 r9, .int .i64 r10, .int .u64 r11, .int .i64 r12, .int .i64 r13, .int .i64 r14, .int .i64 r15, .int .i64 r16]) ∧ Below w.heap.size w w' := by
 have hu24 := Tryd.underlying24
 have HB := Aside0.mk (Below.refl w.heap.size w)
 have H : (some (2, a0_1, ((Go.bits .and .u8 a1 2) != 0), ((Go.bits .and .u8 a1 16) != 0), ((Go.bits .and .u8 a1 32) != 0), ((Go.bits .and .u8 a1 64) != 0), a0_6, (Int.tdiv a1 4) % 4, a0_8, a0_9, a0_10, a0_11, a0_12, a0_13, a0_14, a0_15)) = some (r1, r2, r3, r4, r5, r6, r7, r8, r9, r10, r11, r12, r13, r14, r15, r16) := h
 clear h
 simp only [Option.some.injEq, Prod.mk.injEq] at H
 obtain ⟨rfl, rfl, rfl, rfl, rfl, rfl, rfl, rfl, rfl, rfl, rfl, rfl, rfl, rfl, rfl, rfl⟩ := H
 go_enter Tryd.func27, Tryd.ntmps27
 go_wp2_with (first | ((with_reducible refine gate_st (ty := 24) rfl ?_); refine storeC16 rfl rfl rfl rfl rfl qb5 qo qf rfl ?_) | ((with_reducible refine gate_ld (ty := 24) rfl ?_); (try (with_reducible refine gate_gd rfl ?_; refine gate_guard qc8 ?_; dsimp only)); refine load_st rfl rfl rfl qb5 qo Tryd.underlying24 rfl qf ?_; (try simp only [Act.put, List.setIfInBounds_toArray, List.set_cons_zero, List.set_cons_succ])) | ((with_reducible refine gate_dst (N := 2) rfl ?_); refine box_event ?hg (N := 2) ?hd (cs := #[.int .i64 a0_0, .bool a0_1, .bool a0_2, .bool a0_3, .bool a0_4, .bool a0_5, .bool a0_6, .int .i64 a0_7, .int .u64 a0_8, .int .i64 a0_9, .int .u64 a0_10, .int .i64 a0_11, .int .i64 a0_12, .int .i64 a0_13, .int .i64 a0_14, .int .i64 a0_15]) (t := 24) ?hr ?_; (case hd => rfl); (case hg => rfl); (case hr => first | (go_simp; done) | (go_simp; rfl)); intro gb131 hg w3 hbox hb; have n0_ := Aside0.mk (below_step qbh hb); have n1_ := Aside0.mk (hbox); have n2_ := Aside0.mk ((qcq : w.heap.size ≤ gb131)); have n3_ := Aside0.mk ((qcq : w.heap.size ≤ gb131)); clear HB; have HB := n0_; have BK131 := n1_; have GW131 := n2_; have GE131 := n3_; clear n0_ n1_ n2_ n3_; clear hb hbox hg) | ((with_reducible refine gate_dst (N := 4) rfl ?_); refine box_event ?hg (N := 4) ?hd (cs := #[.int .i64 0, .bool false, .bool false, .bool false, .bool false, .bool false, .bool false, .int .i64 0, .int .u64 0, .int .i64 0, .int .u64 0, .int .i64 0, .int .i64 0, .int .i64 0, .int .i64 0, .int .i64 0]) (t := 24) ?hr ?_; (case hd => rfl); (case hg => rfl); (case hr => first | (go_simp; done) | (go_simp; rfl)); intro gb132 hg w4 hbox hb; have n0_ := Aside0.mk (blk_below (g := gb131) qbe hb); have n1_ := Aside0.mk (below_step qbs hb); have n2_ := Aside0.mk (hbox); have n3_ := Aside0.mk ((by rw [hg]; exact (below_size qbs) : w.heap.size ≤ gb132)); have n4_ := Aside0.mk ((by rw [hg]; exact (below_size qbs) : w.heap.size ≤ gb132)); have n5_ := Aside0.mk ((by rw [hg]; exact Nat.ne_of_lt (blk_lt (g := gb131) qbe) : gb131 ≠ gb132)); have n6_ := Aside0.mk ((by rw [hg]; exact Nat.ne_of_gt (blk_lt (g := gb131) qbe) : gb132 ≠ gb131)); clear BK131; clear HB; have BK131 := n0_; have HB := n1_; have BK132 := n2_; have GW132 := n3_; have GE132 := n4_; have NB131_132 := n5_; have NB132_131 := n6_; clear n0_ n1_ n2_ n3_ n4_ n5_ n6_; clear hb hbox hg; have hnb5 := NB131_132.out; have hnc5 := NB132_131.out; obtain ⟨hcz6_0, hcz6_1, hcz6_2, hcz6_3, hcz6_4, hcz6_5, hcz6_6, hcz6_7, hcz6_8, hcz6_9, hcz6_10, hcz6_11, hcz6_12, hcz6_13, hcz6_14, hcz6_15⟩ := cells16 BK131.out; obtain ⟨hfz6_0, hfz6_1, hfz6_2, hfz6_3, hfz6_4, hfz6_5, hfz6_6, hfz6_7, hfz6_8, hfz6_9, hfz6_10, hfz6_11, hfz6_12, hfz6_13, hfz6_14, hfz6_15⟩ := frozen16 BK131.out; obtain ⟨hcz7_0, hcz7_1, hcz7_2, hcz7_3, hcz7_4, hcz7_5, hcz7_6, hcz7_7, hcz7_8, hcz7_9, hcz7_10, hcz7_11, hcz7_12, hcz7_13, hcz7_14, hcz7_15⟩ := cells16 BK132.out; obtain ⟨hfz7_0, hfz7_1, hfz7_2, hfz7_3, hfz7_4, hfz7_5, hfz7_6, hfz7_7, hfz7_8, hfz7_9, hfz7_10, hfz7_11, hfz7_12, hfz7_13, hfz7_14, hfz7_15⟩ := frozen16 BK132.out))
 refine bodyPost_ret (results_cell_row rfl _ _ gb132 24 #[.int .i64 2, .bool a0_1, .bool ((Go.bits .and .u8 a1 2) != 0), .bool ((Go.bits .and .u8 a1 16) != 0), .bool ((Go.bits .and .u8 a1 32) != 0), .bool ((Go.bits .and .u8 a1 64) != 0), .bool a0_6, .int .i64 ((Int.tdiv a1 4) % 4), .int .u64 a0_8, .int .i64 a0_9, .int .u64 a0_10, .int .i64 a0_11, .int .i64 a0_12, .int .i64 a0_13, .int .i64 a0_14, .int .i64 a0_15] (0, 0) _ rfl (by (with_reducible repeat (first | refine blk_drewN ?_ _ | refine blk_drew ?_ | refine blk_alloc ?_ _)); refine blk_put (cs := #[.int .i64 2, .bool a0_1, .bool ((Go.bits .and .u8 a1 2) != 0), .bool ((Go.bits .and .u8 a1 16) != 0), .bool ((Go.bits .and .u8 a1 32) != 0), .bool ((Go.bits .and .u8 a1 64) != 0), .bool a0_6, .int .i64 ((Int.tdiv a1 4) % 4), .int .u64 a0_8, .int .i64 a0_9, .int .u64 a0_10, .int .i64 a0_11, .int .i64 a0_12, .int .i64 a0_13, .int .i64 a0_14, .int .i64 0]) ?_ 15 _ rfl; (with_reducible repeat (first | refine blk_drewN ?_ _ | refine blk_drew ?_ | refine blk_alloc ?_ _)); refine blk_put (cs := #[.int .i64 2, .bool a0_1, .bool ((Go.bits .and .u8 a1 2) != 0), .bool ((Go.bits .and .u8 a1 16) != 0), .bool ((Go.bits .and .u8 a1 32) != 0), .bool ((Go.bits .and .u8 a1 64) != 0), .bool a0_6, .int .i64 ((Int.tdiv a1 4) % 4), .int .u64 a0_8, .int .i64 a0_9, .int .u64 a0_10, .int .i64 a0_11, .int .i64 a0_12, .int .i64 a0_13, .int .i64 0, .int .i64 0]) ?_ 14 _ rfl; (with_reducible repeat (first | refine blk_drewN ?_ _ | refine blk_drew ?_ | refine blk_alloc ?_ _)); refine blk_put (cs := #[.int .i64 2, .bool a0_1, .bool ((Go.bits .and .u8 a1 2) != 0), .bool ((Go.bits .and .u8 a1 16) != 0), .bool ((Go.bits .and .u8 a1 32) != 0), .bool ((Go.bits .and .u8 a1 64) != 0), .bool a0_6, .int .i64 ((Int.tdiv a1 4) % 4), .int .u64 a0_8, .int .i64 a0_9, .int .u64 a0_10, .int .i64 a0_11, .int .i64 a0_12, .int .i64 0, .int .i64 0, .int .i64 0]) ?_ 13 _ rfl; (with_reducible repeat (first | refine blk_drewN ?_ _ | refine blk_drew ?_ | refine blk_alloc ?_ _)); refine blk_put (cs := #[.int .i64 2, .bool a0_1, .bool ((Go.bits .and .u8 a1 2) != 0), .bool ((Go.bits .and .u8 a1 16) != 0), .bool ((Go.bits .and .u8 a1 32) != 0), .bool ((Go.bits .and .u8 a1 64) != 0), .bool a0_6, .int .i64 ((Int.tdiv a1 4) % 4), .int .u64 a0_8, .int .i64 a0_9, .int .u64 a0_10, .int .i64 a0_11, .int .i64 0, .int .i64 0, .int .i64 0, .int .i64 0]) ?_ 12 _ rfl; (with_reducible repeat (first | refine blk_drewN ?_ _ | refine blk_drew ?_ | refine blk_alloc ?_ _)); refine blk_put (cs := #[.int .i64 2, .bool a0_1, .bool ((Go.bits .and .u8 a1 2) != 0), .bool ((Go.bits .and .u8 a1 16) != 0), .bool ((Go.bits .and .u8 a1 32) != 0), .bool ((Go.bits .and .u8 a1 64) != 0), .bool a0_6, .int .i64 ((Int.tdiv a1 4) % 4), .int .u64 a0_8, .int .i64 a0_9, .int .u64 a0_10, .int .i64 0, .int .i64 0, .int .i64 0, .int .i64 0, .int .i64 0]) ?_ 11 _ rfl; (with_reducible repeat (first | refine blk_drewN ?_ _ | refine blk_drew ?_ | refine blk_alloc ?_ _)); refine blk_put (cs := #[.int .i64 2, .bool a0_1, .bool ((Go.bits .and .u8 a1 2) != 0), .bool ((Go.bits .and .u8 a1 16) != 0), .bool ((Go.bits .and .u8 a1 32) != 0), .bool ((Go.bits .and .u8 a1 64) != 0), .bool a0_6, .int .i64 ((Int.tdiv a1 4) % 4), .int .u64 a0_8, .int .i64 a0_9, .int .u64 0, .int .i64 0, .int .i64 0, .int .i64 0, .int .i64 0, .int .i64 0]) ?_ 10 _ rfl; (with_reducible repeat (first | refine blk_drewN ?_ _ | refine blk_drew ?_ | refine blk_alloc ?_ _)); refine blk_put (cs := #[.int .i64 2, .bool a0_1, .bool ((Go.bits .and .u8 a1 2) != 0), .bool ((Go.bits .and .u8 a1 16) != 0), .bool ((Go.bits .and .u8 a1 32) != 0), .bool ((Go.bits .and .u8 a1 64) != 0), .bool a0_6, .int .i64 ((Int.tdiv a1 4) % 4), .int .u64 a0_8, .int .i64 0, .int .u64 0, .int .i64 0, .int .i64 0, .int .i64 0, .int .i64 0, .int .i64 0]) ?_ 9 _ rfl; (with_reducible repeat (first | refine blk_drewN ?_ _ | refine blk_drew ?_ | refine blk_alloc ?_ _)); refine blk_put (cs := #[.int .i64 2, .bool a0_1, .bool ((Go.bits .and .u8 a1 2) != 0), .bool ((Go.bits .and .u8 a1 16) != 0), .bool ((Go.bits .and .u8 a1 32) != 0), .bool ((Go.bits .and .u8 a1 64) != 0), .bool a0_6, .int .i64 ((Int.tdiv a1 4) % 4), .int .u64 0, .int .i64 0, .int .u64 0, .int .i64 0, .int .i64 0, .int .i64 0, .int .i64 0, .int .i64 0]) ?_ 8 _ rfl; (with_reducible repeat (first | refine blk_drewN ?_ _ | refine blk_drew ?_ | refine blk_alloc ?_ _)); refine blk_put (cs := #[.int .i64 2, .bool a0_1, .bool ((Go.bits .and .u8 a1 2) != 0), .bool ((Go.bits .and .u8 a1 16) != 0), .bool ((Go.bits .and .u8 a1 32) != 0), .bool ((Go.bits .and .u8 a1 64) != 0), .bool a0_6, .int .i64 0, .int .u64 0, .int .i64 0, .int .u64 0, .int .i64 0, .int .i64 0, .int .i64 0, .int .i64 0, .int .i64 0]) ?_ 7 _ rfl; (with_reducible repeat (first | refine blk_drewN ?_ _ | refine blk_drew ?_ | refine blk_alloc ?_ _)); refine blk_put (cs := #[.int .i64 2, .bool a0_1, .bool ((Go.bits .and .u8 a1 2) != 0), .bool ((Go.bits .and .u8 a1 16) != 0), .bool ((Go.bits .and .u8 a1 32) != 0), .bool ((Go.bits .and .u8 a1 64) != 0), .bool false, .int .i64 0, .int .u64 0, .int .i64 0, .int .u64 0, .int .i64 0, .int .i64 0, .int .i64 0, .int .i64 0, .int .i64 0]) ?_ 6 _ rfl; (with_reducible repeat (first | refine blk_drewN ?_ _ | refine blk_drew ?_ | refine blk_alloc ?_ _)); refine blk_put (cs := #[.int .i64 2, .bool a0_1, .bool ((Go.bits .and .u8 a1 2) != 0), .bool ((Go.bits .and .u8 a1 16) != 0), .bool ((Go.bits .and .u8 a1 32) != 0), .bool false, .bool false, .int .i64 0, .int .u64 0, .int .i64 0, .int .u64 0, .int .i64 0, .int .i64 0, .int .i64 0, .int .i64 0, .int .i64 0]) ?_ 5 _ rfl; (with_reducible repeat (first | refine blk_drewN ?_ _ | refine blk_drew ?_ | refine blk_alloc ?_ _)); refine blk_put (cs := #[.int .i64 2, .bool a0_1, .bool ((Go.bits .and .u8 a1 2) != 0), .bool ((Go.bits .and .u8 a1 16) != 0), .bool false, .bool false, .bool false, .int .i64 0, .int .u64 0, .int .i64 0, .int .u64 0, .int .i64 0, .int .i64 0, .int .i64 0, .int .i64 0, .int .i64 0]) ?_ 4 _ rfl; (with_reducible repeat (first | refine blk_drewN ?_ _ | refine blk_drew ?_ | refine blk_alloc ?_ _)); refine blk_put (cs := #[.int .i64 2, .bool a0_1, .bool ((Go.bits .and .u8 a1 2) != 0), .bool false, .bool false, .bool false, .bool false, .int .i64 0, .int .u64 0, .int .i64 0, .int .u64 0, .int .i64 0, .int .i64 0, .int .i64 0, .int .i64 0, .int .i64 0]) ?_ 3 _ rfl; (with_reducible repeat (first | refine blk_drewN ?_ _ | refine blk_drew ?_ | refine blk_alloc ?_ _)); refine blk_put (cs := #[.int .i64 2, .bool a0_1, .bool false, .bool false, .bool false, .bool false, .bool false, .int .i64 0, .int .u64 0, .int .i64 0, .int .u64 0, .int .i64 0, .int .i64 0, .int .i64 0, .int .i64 0, .int .i64 0]) ?_ 2 _ rfl; (with_reducible repeat (first | refine blk_drewN ?_ _ | refine blk_drew ?_ | refine blk_alloc ?_ _)); refine blk_put (cs := #[.int .i64 2, .bool false, .bool false, .bool false, .bool false, .bool false, .bool false, .int .i64 0, .int .u64 0, .int .i64 0, .int .u64 0, .int .i64 0, .int .i64 0, .int .i64 0, .int .i64 0, .int .i64 0]) ?_ 1 _ rfl; (with_reducible repeat (first | refine blk_drewN ?_ _ | refine blk_drew ?_ | refine blk_alloc ?_ _)); refine blk_put (cs := #[.int .i64 0, .bool false, .bool false, .bool false, .bool false, .bool false, .bool false, .int .i64 0, .int .u64 0, .int .i64 0, .int .u64 0, .int .i64 0, .int .i64 0, .int .i64 0, .int .i64 0, .int .i64 0]) ?_ 0 _ rfl; (with_reducible repeat (first | refine blk_drewN ?_ _ | refine blk_drew ?_ | refine blk_alloc ?_ _ | refine blk_far ?_ NB132_131.out _)); exact BK132.out) Tryd.underlying24 rfl qf) rfl ?_
 exact ⟨by first | rfl | (simp [errW_none, errW_some] <;> rfl) | (simp [*, errW_none, errW_some] <;> rfl) | (simp [*, IntKind.wrap_u32]; done) | (simp_all [IntKind.wrap_u32]; done), by repeat (first | (with_reducible first | exact HB.out | apply below_alloc | apply pw_below_drewN | apply below_drew1 | refine below_set ?_ GE131.out | refine below_set ?_ GE132.out) | exact HB.out)⟩
/-! ### octets_part: function 40, by hand -/
def octets_part.f (a0 : ByteArray) (a1 : Int) (a2 : Int) : Option (ByteArray × Option Int) :=
 if 0 ≤ a1 then (if 0 ≤ a2 then (if a1 + a2 ≤ (a0.size : Int) then (if a0.size ≤ 1099511627776 then some (a0.extract a1.toNat (a1 + a2).toNat, none) else none) else none) else none) else none
set_option maxHeartbeats 4000000 in
theorem octets_part.calls (a0 : ByteArray) (a1 : Int) (a2 : Int) (r1 : ByteArray) (r2 : Option Int) (w : World) (h : octets_part.f a0 a1 a2 = some (r1, r2)) :
  Calls Tryd.prog 40 #[.string a0, .int .i64 a1, .int .i64 a2] w fun e w' => e = .returned (.tuple #[.string r1, errW r2]) ∧ Drawn0 w w' := by
 unfold octets_part.f at h
 by_cases h1 : 0 ≤ a1
 ·rw [if_pos h1] at h
  by_cases h2 : 0 ≤ a2
  ·rw [if_pos h2] at h
   by_cases h3 : a1 + a2 ≤ (a0.size : Int)
   ·rw [if_pos h3] at h
    by_cases h4 : a0.size ≤ 1099511627776
    ·rw [if_pos h4] at h
     obtain ⟨i, rfl⟩ := Int.eq_ofNat_of_zero_le h1
     obtain ⟨n, rfl⟩ := Int.eq_ofNat_of_zero_le h2
     obtain ⟨rfl, rfl⟩ : a0.extract i (i + n) = r1 ∧ none = r2 := by
      have h5 := Option.some.inj h
      rw [Int.toNat_natCast, show ((i : Int) + (n : Int)).toNat = i + n by omega] at h5
      exact Prod.mk.inj h5
     clear h
     have h5 : i + n ≤ a0.size := by omega
     clear h3
     have b3 : decide (a0.size < i) = false := decide_eq_false qc
     have b4 : decide ((a0.size : Int) - (i : Int) < (n : Int)) = false := decide_eq_false qc
     have b5 : ¬ a0.size < i := by omega
     have b6 : ¬ ((a0.size : Int) - (i : Int) < (n : Int)) := by omega
     have c1 := eq_true (show (0 : Int) ≤ (i : Int) by omega)
     have c2 := eq_true (show (i : Int) ≤ (i : Int) + (n : Int) by omega)
     have c3 := eq_true (show (i : Int) + (n : Int) ≤ (a0.size : Int) by omega)
     have c4 : ((i : Int) + (n : Int)).toNat = i + n := by omega
     go_enter Tryd.func40, Tryd.ntmps40
     go_wp2
     go_ret2
     exact ⟨rfl, ⟨0, rfl⟩⟩
    ·rw [if_neg h4] at h
     cases h
   ·rw [if_neg h3] at h
    cases h
  ·rw [if_neg h2] at h
   cases h
 ·rw [if_neg h1] at h
  cases h
/-! ### octets_number: function 41, by hand -/
def octets_number.f (a0 : Option Int) : Option (Int) := if a0 = none then some 0 else none
theorem octets_number.calls (a0 : Option Int) (r : Int) (w : World) (h : octets_number.f a0 = some r) :
  Calls Tryd.prog 41 #[errW a0] w fun e w' => e = .returned (.int .i64 r) ∧ Below w.heap.size w w' := by
 unfold octets_number.f at h
 by_cases h1 : a0 = none
 ·rw [if_pos h1] at h
  cases h
  subst h1
  rw [errW_none]
  go_enter Tryd.func41, Tryd.ntmps41
  go_wp2
  go_ret
  exact ⟨rfl, (Below.refl _ _).alloc (Nat.le_refl _) _⟩
 ·rw [if_neg h1] at h
  cases h
end Go.Proofs.YtbfjlhjfpmgplaaDoor.P
