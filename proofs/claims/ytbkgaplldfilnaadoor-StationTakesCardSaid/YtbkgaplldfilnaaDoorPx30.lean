-- slim
-- Written by wip/hprint.py (this session's program) through the kit's print program; hand contracts are marked 'by hand'.
import Derived.Test.YtbkgaplldfilnaaDoorAbb
import Derived.Test.YtbkgaplldfilnaaDoorPx0
import Derived.Test.YtbkgaplldfilnaaDoorPx10
import Derived.Test.YtbkgaplldfilnaaDoorPx4
import Derived.Test.YtbkgaplldfilnaaDoorRow
import Derived.Test.YtbkgaplldfilnaaDoorPx32
import Derived.Test.YtbkgaplldfilnaaDoorPx17
namespace Go.Proofs.YtbkgaplldfilnaaDoor.P
open Go.RowKit Go.Proofs.YtbkgaplldfilnaaDoorW.PrintWords Go.Proofs.YtbkgaplldfilnaaDoorW.PrintLast Go.Proofs.YtbkgaplldfilnaaDoorW.PrintMore
attribute [local go_sem] max2_int min2_int max_two min_two max_three min_three max_four min_four   -- for this text's walks alone
set_option linter.unusedVariables false
set_option linter.unusedSimpArgs false

/-! ### udp_Check: function 42, by hand -/
def udp_pt_ (n : Int) : Bool := decide (0 ≤ n) && decide (n < 65536)
def udp_Check.f (a0_0 : Int) (a0_1 : Int) (a0_2 : Bool) (a0_3 : ByteArray) : Option (Int) := if udp_pt_ a0_0 = true then (if udp_pt_ a0_1 = true then (if a0_3.size ≤ 65507 then some 0 else some 71) else some 71) else some 71
theorem udp_port_calls (n : Int) (b : Bool) (hb : udp_pt_ n = b) (w : World) :
  Calls Tryd.prog 69 #[.int .i64 n] w fun e w' => e = .returned (.bool b) ∧ w = w' := by
 unfold udp_pt_ at hb
 by_cases h1 : 0 ≤ n
 ·by_cases h2 : n < 65536
  ·obtain rfl : true = b := by rw [← hb, decide_eq_true h1, decide_eq_true h2]; rfl
   clear hb
   go_enter Tryd.func69, Tryd.ntmps69
   go_wp2
   go_ret
   exact ⟨(by simp [h2]), rfl⟩
  ·obtain rfl : false = b := by rw [← hb, decide_eq_true h1, decide_eq_false h2]; rfl
   clear hb
   go_enter Tryd.func69, Tryd.ntmps69
   go_wp2
   go_ret
   exact ⟨(by simp [h2]), rfl⟩
 ·obtain rfl : false = b := by rw [← hb, decide_eq_false h1]; rfl
  clear hb
  go_enter Tryd.func69, Tryd.ntmps69
  go_wp2
  go_ret
  exact ⟨(by simp [h1]), rfl⟩
theorem z30_0 {p : Prop} (h : p := by
 go_enter Tryd.func42, Tryd.ntmps42
 go_wp2_with (first | (go_at_call 69; (with_reducible refine (udp_port_calls a0_0 true H0.out _).mono ?_); rintro e w' ⟨rfl, rfl⟩) | (go_at_call 69; (with_reducible refine (udp_port_calls a0_1 true H1.out _).mono ?_); rintro e w' ⟨rfl, rfl⟩))
 go_ret
 exact ⟨rfl, (Below.refl _ _).alloc (Nat.le_refl _) _⟩) : p := h
set_option maxHeartbeats 4000000 in
theorem udp_Check.calls (a0_0 : Int) (a0_1 : Int) (a0_2 : Bool) (a0_3 : ByteArray) (r : Int) (w : World) (h : udp_Check.f a0_0 a0_1 a0_2 a0_3 = some r) :
  Calls Tryd.prog 42 #[.agg #[.int .i64 a0_0, .int .i64 a0_1, .bool a0_2, .string a0_3]] w fun e w' => e = .returned (.int .i64 r) ∧ Below w.heap.size w w' := by
 unfold udp_Check.f at h
 by_cases h0 : udp_pt_ a0_0 = true
 ·rw [if_pos h0] at h
  by_cases h1 : udp_pt_ a0_1 = true
  ·rw [if_pos h1] at h
   by_cases h2 : a0_3.size ≤ 65507
   ·rw [if_pos h2] at h
    obtain rfl := Option.some.inj h
    clear h
    have H0 := Aside0.mk h0
    have H1 := Aside0.mk h1
    clear h0 h1
    have b2 : decide (a0_3.size ≤ 65507) = true := decide_eq_true h2
    have b3 : decide ((a0_3.size : Int) ≤ 65507) = true := decide_eq_true q1jy
    exact z30_0
   ·rw [if_neg h2] at h
    obtain rfl := Option.some.inj h
    clear h
    have H0 := Aside0.mk h0
    have H1 := Aside0.mk h1
    clear h0 h1
    have b2 : decide (a0_3.size ≤ 65507) = false := decide_eq_false h2
    have b3 : decide ((a0_3.size : Int) ≤ 65507) = false := decide_eq_false q1jy
    exact z30_0
  ·rw [if_neg h1] at h
   obtain rfl := Option.some.inj h
   clear h
   have H0 := Aside0.mk h0
   have H1 := Aside0.mk (Bool.eq_false_iff.2 h1)
   clear h0 h1
   go_enter Tryd.func42, Tryd.ntmps42
   go_wp2_with (first | (go_at_call 69; (with_reducible refine (udp_port_calls a0_0 true H0.out _).mono ?_); rintro e w' ⟨rfl, rfl⟩) | (go_at_call 69; (with_reducible refine (udp_port_calls a0_1 false H1.out _).mono ?_); rintro e w' ⟨rfl, rfl⟩))
   go_ret
   exact ⟨rfl, (Below.refl _ _).alloc (Nat.le_refl _) _⟩
 ·rw [if_neg h0] at h
  obtain rfl := Option.some.inj h
  clear h
  have H0 := Aside0.mk (Bool.eq_false_iff.2 h0)
  clear h0
  go_enter Tryd.func42, Tryd.ntmps42
  go_wp2_with (go_at_call 69; (with_reducible refine (udp_port_calls a0_0 false H0.out _).mono ?_); rintro e w' ⟨rfl, rfl⟩)
  go_ret
  exact ⟨rfl, (Below.refl _ _).alloc (Nat.le_refl _) _⟩
/-! ### udp_word: function 43 -/
def udp_word.f (k : Nat) (a0 : Int) : Option (ByteArray) := (octets_Put.f k (IntKind.u64.wrap (a0)) 2).bind fun bt427 => (some bt427.1)
theorem udp_word.mono : ∀ a0 k, LeO (udp_word.f k a0) (udp_word.f (k + 1) a0) := by
 intro a0 k
 unfold udp_word.f
 repeat' first
   | (with_reducible exact octets_Put.mono _ _ _)
   | (with_reducible exact LeO.refl _)
   | (with_reducible exact LeO.none _)
   | (with_reducible refine LeO.ite ?_ ?_)
   | (with_reducible refine LeO.bind ?_ (fun _ => ?_))
   | exact octets_Put.mono _ _ _
   | exact LeO.none _
   | refine LeO.ite ?_ ?_
   | refine LeO.bind ?_ (fun _ => ?_)
set_option maxHeartbeats 8000000 in
set_option maxRecDepth 100000 in
theorem udp_word.calls (k : Nat) (a0 : Int) (r : ByteArray) (w : World) (h : udp_word.f k a0 = some r) :
  Calls Tryd.prog 43 #[.int .i64 a0] w fun e w' => e = .returned (.string r) ∧ Below w.heap.size w w' := by
 have HB := Aside0.mk (Below.refl w.heap.size w)
 have H := h
 unfold udp_word.f at H
 clear h
 replace H := Option.bind_eq_some_iff.mp H
 obtain ⟨⟨t427, t428⟩, A20, H⟩ := H
 try dsimp only at H
 have A2 := Aside0.mk A20
 clear A20
 obtain rfl := Option.some.inj H
 go_enter Tryd.func43, Tryd.ntmps43
 go_wp2_with (first | ((with_reducible refine gate_callee (f := 47) rfl ?_); refine goesL_ (some 8) rfl rfl Tryd.func47 qg3m rfl #[.int .u64 (IntKind.u64.wrap (a0)), .int .i64 2] rfl qraq ?_; (with_reducible refine (octets_Put.calls k (IntKind.u64.wrap (a0)) 2 t427 t428 _ A2.out).mono ?_); rintro e w3 ⟨rfl, hb⟩; refine ⟨_, rfl, ?_⟩; replace HB := Aside0.mk (below_step qpag hb); (try clear hb); (try clear hb2); (try clear hk); (try clear hi)))
 go_ret
 exact ⟨qxu5, qpag⟩
/-! ### csum_Of: function 44 -/
def csum_Of.f (k : Nat) (l0 : List ByteArray) : Option (Int) := (csum_total.f k l0).bind fun t429 => (some (wrap64 (65535 - t429)))
theorem csum_Of.mono : ∀ a0 k, LeO (csum_Of.f k a0) (csum_Of.f (k + 1) a0) := by
 intro a0 k
 unfold csum_Of.f
 repeat' first
   | (with_reducible exact csum_total.mono _ _)
   | (with_reducible exact LeO.refl _)
   | (with_reducible exact LeO.none _)
   | (with_reducible refine LeO.ite ?_ ?_)
   | (with_reducible refine LeO.bind ?_ (fun _ => ?_))
   | exact csum_total.mono _ _
   | exact LeO.none _
   | refine LeO.ite ?_ ?_
   | refine LeO.bind ?_ (fun _ => ?_)
set_option maxHeartbeats 8000000 in
set_option maxRecDepth 100000 in
theorem csum_Of.calls (k : Nat) (A0 : Option Addr) (c0 : Nat) (l0 : List ByteArray) (r : Int) (w : World) (hr0 : Kd.C Kd.string w A0 l0.length l0) (hc0 : l0.length ≤ c0) (h : csum_Of.f k l0 = some r) :
  Calls Tryd.prog 44 #[.slice A0 l0.length c0] w fun e w' => e = .returned (.int .i64 r) ∧ Below w.heap.size w w' := by
 have HR0 := Aside0.mk hr0
 have HC0 := Aside0.mk hc0
 clear hr0 hc0
 have HB := Aside0.mk (Below.refl w.heap.size w)
 have H := h
 unfold csum_Of.f at H
 clear h
 replace H := Option.bind_eq_some_iff.mp H
 obtain ⟨t429, A20, H⟩ := H
 try dsimp only at H
 have A2 := Aside0.mk A20
 clear A20
 obtain rfl := Option.some.inj H
 go_enter Tryd.func44, Tryd.ntmps44
 go_wp2_with (first | ((with_reducible refine gate_callee (f := 70) rfl ?_); refine goesL_ (some 4) rfl rfl Tryd.func70 qg3m rfl #[.slice A0 l0.length c0] rfl qraq ?_; (with_reducible refine (csum_total.calls k _ _ l0 t429 _ ?side1 ?side2 A2.out).mono ?_); (case side1 => repeat (first | exact HR0.out | (with_reducible refine Kd.C_alloc ?_ _) | (with_reducible refine Kd.C_drewN ?_ _) | (with_reducible refine Kd.C_drew ?_))); (case side2 => exact HC0.out); rintro e w3 ⟨rfl, hb⟩; refine ⟨_, rfl, ?_⟩; replace HB := Aside0.mk (below_step qpag hb); (try clear hb); (try clear hb2); (try clear hk); (try clear hi)))
 go_ret
 exact ⟨qxu5, qpag⟩
attribute [local go_sem] max2_int min2_int max_two min_two max_three min_three max_four min_four   -- for this text's walks alone
set_option linter.unusedVariables false
set_option linter.unusedSimpArgs false

theorem q4g6 {p : Prop} (h : p := by (with_reducible repeat (first | refine blk_drewN ?_ _ | refine blk_drew ?_ | refine blk_alloc ?_ _)); exact BK196.out) : p := h
theorem qhx6 {p : Prop} (h : p := by repeat (first | (with_reducible first | exact HB.out | apply below_alloc | apply pw_below_drewN | apply below_drew1 | refine below_set ?_ GE196.out) | exact HB.out)) : p := h
/-! ### udp_Parse: function 61 -/
def udp_Parse.f (k : Nat) (a0 : Int) (a1 : Int) (a2 : ByteArray) : Option (Int × Int × Bool × ByteArray × Int) := (udp_wrong.f k a0 a1 a2).bind fun bt197 => (if bt197.1 = 0 then (some (0, 0, false, (⟨#[]⟩ : ByteArray), 70)) else (if bt197.1 = 2 then (some (0, 0, false, (⟨#[]⟩ : ByteArray), 70)) else (if bt197.1 = 1 then (some (0, 0, false, (⟨#[]⟩ : ByteArray), 71)) else (if bt197.1 = 3 then (some (0, 0, false, (⟨#[]⟩ : ByteArray), 72)) else ((octets_Get.f k a2 0 2).bind fun bt199 => ((octets_Get.f k a2 2 2).bind fun bt201 => (if 6 ≤ 8 then (if 8 ≤ (a2.size : Int) then (if 8 ≤ bt197.2 then (if bt197.2 ≤ (a2.size : Int) then (some (wrap64 (bt199.1), wrap64 (bt201.1), ((a2.extract 6 8).toList == ([0, 0] : List UInt8)), a2.extract 8 (bt197.2 : Int).toNat, 0)) else (none)) else (none)) else (none)) else (none))))))))
theorem udp_Parse.mono : ∀ a0 a1 a2 k, LeO (udp_Parse.f k a0 a1 a2) (udp_Parse.f (k + 1) a0 a1 a2) := by
 intro a0 a1 a2 k
 unfold udp_Parse.f
 repeat' first
   | (with_reducible exact octets_Get.mono _ _ _ _)
   | (with_reducible exact udp_wrong.mono _ _ _ _)
   | (with_reducible exact LeO.refl _)
   | (with_reducible exact LeO.none _)
   | (with_reducible refine LeO.ite ?_ ?_)
   | (with_reducible refine LeO.bind ?_ (fun _ => ?_))
   | exact octets_Get.mono _ _ _ _
   | exact udp_wrong.mono _ _ _ _
   | exact LeO.none _
   | refine LeO.ite ?_ ?_
   | refine LeO.bind ?_ (fun _ => ?_)
def udp_Parse.T12 : Bool × List (List Nat × List Nat) := (true, [([], []), ([0], [0]), ([], []), ([2], [2]), ([], []), ([4], [4]), ([5], [5]), ([], []), ([], []), ([7, 8], [7, 8]), ([1, 3, 6, 9], [1, 3, 6, 9]), ([10, 0, 1, 2, 3, 4, 5, 6, 7, 8, 9, 10], [10]), ([11, 0, 1, 2, 3, 4, 5, 6, 7, 8, 9, 10, 11], [])])
def udp_Parse.B12 : List Nat := [0, 1, 0, 4, 0, 16, 48, 0, 0, 384, 1023, 2047, 4095]
theorem udp_Parse.tab12 : rtab .any (opsOf Tryd.f61 12) = udp_Parse.T12 := by kernel_rfl
theorem udp_Parse.bits12 : waitsOk udp_Parse.T12.2 udp_Parse.B12 = true := by kernel_rfl
theorem z18_0 {p : Prop} (h : p := by
 simp only [Option.some.injEq, Prod.mk.injEq] at H
 obtain ⟨rfl, rfl, rfl, rfl, rfl⟩ := H
 go_enter Tryd.func61, Tryd.ntmps61
 go_wp2_with (first | ((with_reducible refine gate_dst (N := 6) rfl ?_); refine box_event qgcr (N := 6) qgcr (cs := #[.int .i64 0, .int .i64 0, .bool false, .string (⟨#[]⟩ : ByteArray)]) (t := 31) qlto ?_; intro gbz0 hg wz1 hbox hb; have BKz0 := Aside0.mk (hbox); have GEz0 := Aside0.mk ((qisx : w.heap.size ≤ gbz0)); replace HB := Aside0.mk (below_step qpag hb); clear hb hbox hg) | ((with_reducible refine gate_callee (f := 77) rfl ?_); refine goesL_ (some 18) rfl rfl Tryd.func77 qg3m rfl #[.int .u32 a0, .int .u32 a1, .string a2] rfl qraq ?_; (with_reducible refine (udp_wrong.calls k a0 a1 a2 t197 t198 _ A4.out).mono ?_); rintro e wz2 ⟨rfl, hb⟩; refine ⟨_, rfl, ?_⟩; replace BKz0 := Aside0.mk (blk_below (g := gbz0) qirs hb); replace HB := Aside0.mk (below_step qmef hb); (try clear hb); (try clear hb2); (try clear hk); (try clear hi); obtain ⟨hczz3_0, hczz3_1, hczz3_2, hczz3_3⟩ := cells4 BKz0.out; obtain ⟨hfzz3_0, hfzz3_1, hfzz3_2, hfzz3_3⟩ := frozen4 BKz0.out))
 refine bodyPost_ret (results_ct rfl _ _ gbz0 31 #[.int .i64 0, .int .i64 0, .bool false, .string (⟨#[]⟩ : ByteArray)] (0, 0) _ rfl qfew Tryd.underlying31 rfl qg3m) rfl ?_
 exact ⟨qxu5, qmef⟩) : p := h
set_option maxHeartbeats 8000000 in
set_option maxRecDepth 100000 in
theorem udp_Parse.calls (k : Nat) (a0 : Int) (a1 : Int) (a2 : ByteArray) (r1 : Int) (r2 : Int) (r3 : Bool) (r4 : ByteArray) (r5 : Int) (w : World) (h : udp_Parse.f k a0 a1 a2 = some (r1, r2, r3, r4, r5)) :
  Calls Tryd.prog 61 #[.int .u32 a0, .int .u32 a1, .string a2] w fun e w' => e = .returned (.tuple #[.agg #[.int .i64 r1, .int .i64 r2, .bool r3, .string r4], .int .i64 r5]) ∧ Below w.heap.size w w' := by
 have hu31 := Tryd.underlying31
 have HB := Aside0.mk (Below.refl w.heap.size w)
 have H := h
 unfold udp_Parse.f at H
 clear h
 replace H := Option.bind_eq_some_iff.mp H
 obtain ⟨⟨t197, t198⟩, A40, H⟩ := H
 try dsimp only at H
 have A4 := Aside0.mk A40
 clear A40
 by_cases c5 : t197 = 0
 ·rw [if_pos c5] at H
  have c5b0 : (t197 == 0) = true := beq_iff_eq.mpr c5
  have c5b1 : (t197 != 0) = false := bne_eq_false_iff_eq.mpr c5
  clear c5
  exact z18_0
 ·rw [if_neg c5] at H
  have c5b0 : (t197 == 0) = false := beq_eq_false_iff_ne.mpr c5
  have c5b1 : (t197 != 0) = true := bne_iff_ne.mpr c5
  by_cases c9 : t197 = 2
  ·rw [if_pos c9] at H
   have c9b0 : (t197 == 2) = true := beq_iff_eq.mpr c9
   have c9b1 : (t197 != 2) = false := bne_eq_false_iff_eq.mpr c9
   clear c9
   exact z18_0
  ·rw [if_neg c9] at H
   have c9b0 : (t197 == 2) = false := beq_eq_false_iff_ne.mpr c9
   have c9b1 : (t197 != 2) = true := bne_iff_ne.mpr c9
   by_cases c13 : t197 = 1
   ·rw [if_pos c13] at H
    have c13b0 : (t197 == 1) = true := beq_iff_eq.mpr c13
    have c13b1 : (t197 != 1) = false := bne_eq_false_iff_eq.mpr c13
    clear c13
    exact z18_0
   ·rw [if_neg c13] at H
    have c13b0 : (t197 == 1) = false := beq_eq_false_iff_ne.mpr c13
    have c13b1 : (t197 != 1) = true := bne_iff_ne.mpr c13
    by_cases c17 : t197 = 3
    ·rw [if_pos c17] at H
     have c17b0 : (t197 == 3) = true := beq_iff_eq.mpr c17
     have c17b1 : (t197 != 3) = false := bne_eq_false_iff_eq.mpr c17
     clear c17
     exact z18_0
    ·rw [if_neg c17] at H
     have c17b0 : (t197 == 3) = false := beq_eq_false_iff_ne.mpr c17
     have c17b1 : (t197 != 3) = true := bne_iff_ne.mpr c17
     replace H := Option.bind_eq_some_iff.mp H
     obtain ⟨⟨t199, t200⟩, A210, H⟩ := H
     try dsimp only at H
     have A21 := Aside0.mk A210
     clear A210
     replace H := Option.bind_eq_some_iff.mp H
     obtain ⟨⟨t201, t202⟩, A220, H⟩ := H
     try dsimp only at H
     have A22 := Aside0.mk A220
     clear A220
     by_cases c23 : 6 ≤ 8
     ·rw [if_pos c23] at H
      have c23b0 := eq_true c23
      have c23b1 : decide (6 ≤ 8) = true := decide_eq_true c23
      clear c23
      by_cases c24 : 8 ≤ (a2.size : Int)
      ·rw [if_pos c24] at H
       have c24b0 := eq_true c24
       have c24b1 : decide (8 ≤ (a2.size : Int)) = true := decide_eq_true c24
       clear c24
       by_cases c25 : 8 ≤ t198
       ·rw [if_pos c25] at H
        have c25b0 := eq_true c25
        have c25b1 : decide (8 ≤ t198) = true := decide_eq_true c25
        clear c25
        by_cases c26 : t198 ≤ (a2.size : Int)
        ·rw [if_pos c26] at H
         have c26b0 := eq_true c26
         have c26b1 : decide (t198 ≤ (a2.size : Int)) = true := decide_eq_true c26
         clear c26
         simp only [Option.some.injEq, Prod.mk.injEq] at H
         obtain ⟨rfl, rfl, rfl, rfl, rfl⟩ := H
         go_enter Tryd.func61, Tryd.ntmps61
         try go_wp2_with (first | ((with_reducible refine gate_dst (N := 6) rfl ?_); refine box_event qgcr (N := 6) qgcr (cs := #[.int .i64 0, .int .i64 0, .bool false, .string (⟨#[]⟩ : ByteArray)]) (t := 31) qlto ?_; intro gb196 hg w27 hbox hb; have BK196 := Aside0.mk (hbox); have GE196 := Aside0.mk ((qisx : w.heap.size ≤ gb196)); replace HB := Aside0.mk (below_step qpag hb); clear hb hbox hg) | ((with_reducible refine gate_callee (f := 77) rfl ?_); refine goesL_ (some 18) rfl rfl Tryd.func77 qg3m rfl #[.int .u32 a0, .int .u32 a1, .string a2] rfl qraq ?_; (with_reducible refine (udp_wrong.calls k a0 a1 a2 t197 t198 _ A4.out).mono ?_); rintro e w28 ⟨rfl, hb⟩; refine ⟨_, rfl, ?_⟩; replace BK196 := Aside0.mk (blk_below (g := gb196) q4g6 hb); replace HB := Aside0.mk (below_step qhx6 hb); obtain ⟨hcy1_196_0, hcy1_196_1, hcy1_196_2, hcy1_196_3⟩ := cells4 BK196.out; (try clear hb); (try clear hb2); (try clear hk); (try clear hi)) | ((with_reducible refine gate_callee (f := 56) rfl ?_); refine goesL_ (some 35) rfl rfl Tryd.func56 qg3m rfl #[.string a2, .int .i64 0, .int .i64 2] rfl qraq ?_; (with_reducible refine (octets_Get.calls k a2 0 2 t199 t200 _ A21.out).mono ?_); rintro e w29 ⟨rfl, hb⟩; refine ⟨_, rfl, ?_⟩; replace BK196 := Aside0.mk (blk_below (g := gb196) q4g6 hb); replace HB := Aside0.mk (below_step qhx6 hb); obtain ⟨hcy2_196_0, hcy2_196_1, hcy2_196_2, hcy2_196_3⟩ := cells4 BK196.out; (try clear hb); (try clear hb2); (try clear hk); (try clear hi)) | ((with_reducible refine gate_callee (f := 56) rfl ?_); refine goesL_ (some 40) rfl rfl Tryd.func56 qg3m rfl #[.string a2, .int .i64 2, .int .i64 2] rfl qraq ?_; (with_reducible refine (octets_Get.calls k a2 2 2 t201 t202 _ A22.out).mono ?_); rintro e w30 ⟨rfl, hb⟩; refine ⟨_, rfl, ?_⟩; replace BK196 := Aside0.mk (blk_below (g := gb196) q4g6 hb); replace HB := Aside0.mk (below_step qhx6 hb); obtain ⟨hcy3_196_0, hcy3_196_1, hcy3_196_2, hcy3_196_3⟩ := cells4 BK196.out; (try clear hb); (try clear hb2); (try clear hk); (try clear hi)))
         replace BK196 := Aside0.mk (blk_drew BK196.out)
         replace HB := Aside0.mk (below_drew1 HB.out)
         refine start_ (n := 13) (S := fun w' => True) (ds := []) (ba 13 0) qg3m rfl rfl trivial (fun hHeld => ?_); refine with_tabW udp_Parse.tab12 udp_Parse.bits12 (fun HT_ HW_ => ?_)
         generalize w30.drew = w31 at BK196 HB hHeld ⊢
         refine pu_c3d (i := 0) (N := some 43) (ba 13 1) ?_
         refine pu_c3d (i := 1) (N := some 44) (ba 13 3) ?_
         refine pu_c3d (i := 2) (N := some 45) (ba 13 7) ?_
         refine pu_c3d (i := 3) (N := some 46) (ba 13 15) ?_
         refine pu_c3d (i := 4) (N := some 47) (ba 13 31) ?_
         refine pu_c3d (i := 5) (N := some 48) (ba 13 63) ?_
         refine pu_c3d (i := 6) (N := some 49) (ba 13 127) ?_
         refine pu_c3d (i := 7) (N := some 50) (ba 13 255) ?_
         refine pu_c3d (i := 8) (N := some 51) (ba 13 511) ?_
         refine pu_c3d (i := 9) (N := some 52) (ba 13 1023) ?_
         refine pu_c3d (i := 10) (N := some 53) (ba 13 2047) ?_
         refine one_ (i := 11) (N := none) (ba 13 4095) rfl rfl (one_of HT_.out qg3m) qomw (fun K hK => ?_)
         have hs32 : w31.cell? ⟨gb196, 0, none⟩ = some (.int .i64 0) := (blk_cell BK196.out 0).trans rfl
         have hfs32 := blk_frozen BK196.out 0
         have hs33 : w31.cell? ⟨gb196, 1, none⟩ = some (.int .i64 0) := (blk_cell BK196.out 1).trans rfl
         have hfs33 := blk_frozen BK196.out 1
         have hs34 : w31.cell? ⟨gb196, 2, none⟩ = some (.bool false) := (blk_cell BK196.out 2).trans rfl
         have hfs34 := blk_frozen BK196.out 2
         have hs35 : w31.cell? ⟨gb196, 3, none⟩ = some (.string (⟨#[]⟩ : ByteArray)) := (blk_cell BK196.out 3).trans rfl
         have hfs35 := blk_frozen BK196.out 3
         refine skip_ (w1 := ?_) qgcr rfl ?_ ?_
         rotate_left
         ·go_simp
          rfl
         refine hK.out _ _ trivial (fun hHeld => ?_)
         clear hK K
         refine pu_c3d (i := 12) (N := some 7) (ba 13 8191) ?_
         refine done_ (done_of HT_.out qg3m) ?_
         try go_wp2
         refine bodyPost_ret (results_ct rfl _ _ gb196 31 #[.int .i64 (wrap64 (t199)), .int .i64 (wrap64 (t201)), .bool ((a2.extract 6 8).toList == ([0, 0] : List UInt8)), .string (a2.extract 8 (t198 : Int).toNat)] (0, 0) _ rfl (by (with_reducible repeat (first | refine blk_drewN ?_ _ | refine blk_drew ?_ | refine blk_alloc ?_ _)); exact put4_0_4 q4g6) Tryd.underlying31 rfl qg3m) rfl ?_
         exact ⟨qxu5, qhx6⟩
        ·rw [if_neg c26] at H
         exact absurd H q6hr
       ·rw [if_neg c25] at H
        exact absurd H q6hr
      ·rw [if_neg c24] at H
       exact absurd H q6hr
     ·rw [if_neg c23] at H
      exact absurd H q6hr
end Go.Proofs.YtbkgaplldfilnaaDoor.P
