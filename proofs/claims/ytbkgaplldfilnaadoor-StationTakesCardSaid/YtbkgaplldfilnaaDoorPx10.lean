-- slim
-- Written by wip/hprint.py (this session's program) through the kit's print program; hand contracts are marked 'by hand'.
import Derived.Test.YtbkgaplldfilnaaDoorAbb
import Derived.Test.YtbkgaplldfilnaaDoorPx0
import Derived.Test.YtbkgaplldfilnaaDoorPx8
import Derived.Test.YtbkgaplldfilnaaDoorRow
import Derived.Test.YtbkgaplldfilnaaDoorPx4
namespace Go.Proofs.YtbkgaplldfilnaaDoor.P
open Go.RowKit Go.Proofs.YtbkgaplldfilnaaDoorW.PrintWords Go.Proofs.YtbkgaplldfilnaaDoorW.PrintLast Go.Proofs.YtbkgaplldfilnaaDoorW.PrintMore
attribute [local go_sem] max2_int min2_int max_two min_two max_three min_three max_four min_four   -- for this text's walks alone
set_option linter.unusedVariables false
set_option linter.unusedSimpArgs false

/-! ### csum_total: function 70 -/
mutual
def csum_total.j0 : Nat → ByteArray → Option (Int)
 | 0, _ => none
 | k + 1, x3 => csum_total.l0 k x3 0 0
def csum_total.l0 : Nat → ByteArray → Int → Int → Option (Int)
 | 0, _, _, _ => none
 | k + 1, x3, x4, x5 => if x5 < (x3.size : Int) then (if 0 ≤ x5 then (if 0 ≤ (wrap64 (x5 + 1)) then (if (wrap64 (x5 + 1)) < (x3.size : Int) then ((csum_fold.f k (wrap64 ((wrap64 (x4 + (wrap64 ((wrap64 (bt x3 x5)) * 256)))) + (wrap64 (bt x3 (wrap64 (x5 + 1))))))).bind fun t126 => (csum_total.l0 k x3 t126 (wrap64 (x5 + 2)))) else (none)) else (none)) else (none)) else (some x4)
end
def csum_total.f (k : Nat) (l0 : List ByteArray) : Option (Int) := (strings_Join.f l0 (⟨#[]⟩ : ByteArray)).bind fun t125 => (if ((t125.size : Int) % 2) = 1 then (if t125.size + 1 ≤ 9223372036854775807 then (csum_total.j0 k (t125 ++ (⟨#[0]⟩ : ByteArray))) else (none)) else (csum_total.j0 k t125))
theorem csum_total.mono_l : ∀ k, (∀ y0, LeO (csum_total.j0 k y0) (csum_total.j0 (k + 1) y0)) ∧ (∀ y0 y1 y2, LeO (csum_total.l0 k y0 y1 y2) (csum_total.l0 (k + 1) y0 y1 y2))
 | 0 => ⟨fun _ r h => by simp [csum_total.j0] at h, fun _ _ _ r h => by simp [csum_total.l0] at h⟩
 | k + 1 => by
  obtain ⟨ih0, ih1⟩ := csum_total.mono_l k
  refine ⟨?_, ?_⟩
  ·intro y0
   unfold csum_total.j0
   repeat' first
   | (with_reducible exact ih0 _)
   | (with_reducible exact ih1 _ _ _)
   | (with_reducible exact csum_fold.mono _ _)
   | (with_reducible exact LeO.refl _)
   | (with_reducible exact LeO.none _)
   | (with_reducible refine LeO.ite ?_ ?_)
   | (with_reducible refine LeO.bind ?_ (fun _ => ?_))
   | exact ih0 _
   | exact ih1 _ _ _
   | exact csum_fold.mono _ _
   | exact LeO.none _
   | refine LeO.ite ?_ ?_
   | refine LeO.bind ?_ (fun _ => ?_)
  ·intro y0 y1 y2
   unfold csum_total.l0
   repeat' first
   | (with_reducible exact ih0 _)
   | (with_reducible exact ih1 _ _ _)
   | (with_reducible exact csum_fold.mono _ _)
   | (with_reducible exact LeO.refl _)
   | (with_reducible exact LeO.none _)
   | (with_reducible refine LeO.ite ?_ ?_)
   | (with_reducible refine LeO.bind ?_ (fun _ => ?_))
   | exact ih0 _
   | exact ih1 _ _ _
   | exact csum_fold.mono _ _
   | exact LeO.none _
   | refine LeO.ite ?_ ?_
   | refine LeO.bind ?_ (fun _ => ?_)
theorem csum_total.mono : ∀ a0 k, LeO (csum_total.f k a0) (csum_total.f (k + 1) a0) := by
 intro a0 k
 obtain ⟨ih0, ih1⟩ := csum_total.mono_l k
 unfold csum_total.f
 repeat' first
   | (with_reducible exact ih0 _)
   | (with_reducible exact ih1 _ _ _)
   | (with_reducible exact csum_fold.mono _ _)
   | (with_reducible exact LeO.refl _)
   | (with_reducible exact LeO.none _)
   | (with_reducible refine LeO.ite ?_ ?_)
   | (with_reducible refine LeO.bind ?_ (fun _ => ?_))
   | exact ih0 _
   | exact ih1 _ _ _
   | exact csum_fold.mono _ _
   | exact LeO.none _
   | refine LeO.ite ?_ ?_
   | refine LeO.bind ?_ (fun _ => ?_)
set_option maxHeartbeats 8000000 in
set_option maxRecDepth 100000 in
theorem csum_total.calls (k : Nat) (A0 : Option Addr) (c0 : Nat) (l0 : List ByteArray) (r : Int) (w : World) (hr0 : Kd.C Kd.string w A0 l0.length l0) (hc0 : l0.length ≤ c0) (h : csum_total.f k l0 = some r) :
  Calls Tryd.prog 70 #[.slice A0 l0.length c0] w fun e w' => e = .returned (.int .i64 r) ∧ Below w.heap.size w w' := by
 have HR0 := Aside0.mk hr0
 have HC0 := Aside0.mk hc0
 clear hr0 hc0
 have HB := Aside0.mk (Below.refl w.heap.size w)
 have H := h
 unfold csum_total.f at H
 clear h
 replace H := Option.bind_eq_some_iff.mp H
 obtain ⟨t125, A20, H⟩ := H
 try dsimp only at H
 have A2 := Aside0.mk A20
 clear A20
 have HC3 := Aside0.mk H
 clear H
 go_enter Tryd.func70, Tryd.ntmps70
 go_upto_if 11 with (first | (go_at_call 78; (with_reducible refine (strings_Join.calls _ _ l0 (⟨#[]⟩ : ByteArray) t125 _ ?side1 ?side2 A2.out).mono ?_); (case side1 => repeat (first | exact HR0.out | (with_reducible refine Kd.C_alloc ?_ _) | (with_reducible refine Kd.C_drewN ?_ _) | (with_reducible refine Kd.C_drew ?_))); (case side2 => exact HC0.out); rintro e w4 ⟨rfl, hb⟩; replace HB := Aside0.mk (below_step qpag hb); (try clear hb); (try clear hb2); (try clear hk); (try clear hi)))
 repeat (go_quiet (first | (go_at_call 78; (with_reducible refine (strings_Join.calls _ _ l0 (⟨#[]⟩ : ByteArray) t125 _ ?side1 ?side2 A2.out).mono ?_); (case side1 => repeat (first | exact HR0.out | (with_reducible refine Kd.C_alloc ?_ _) | (with_reducible refine Kd.C_drewN ?_ _) | (with_reducible refine Kd.C_drew ?_))); (case side2 => exact HC0.out); rintro e w4 ⟨rfl, hb⟩; replace HB := Aside0.mk (below_step qpag hb); (try clear hb); (try clear hb2); (try clear hk); (try clear hi))); go_upto_if 11 with (first | (go_at_call 78; (with_reducible refine (strings_Join.calls _ _ l0 (⟨#[]⟩ : ByteArray) t125 _ ?side1 ?side2 A2.out).mono ?_); (case side1 => repeat (first | exact HR0.out | (with_reducible refine Kd.C_alloc ?_ _) | (with_reducible refine Kd.C_drewN ?_ _) | (with_reducible refine Kd.C_drew ?_))); (case side2 => exact HC0.out); rintro e w4 ⟨rfl, hb⟩; replace HB := Aside0.mk (below_step qpag hb); (try clear hb); (try clear hb2); (try clear hk); (try clear hi))))
 (try simp only [Act.put, List.setIfInBounds_toArray, List.set_cons_zero, List.set_cons_succ])
 go_cut [3] (fun v3 wc => ∃ (kq : Nat) (x3_2 : ByteArray), v3 = .string x3_2 ∧ Aside0 (csum_total.j0 kq x3_2 = some r) ∧ Aside0 (kq ≤ k) ∧ Aside0 (Below w.heap.size w wc))
 case first =>
  have H := HC3.out
  clear HC3
  by_cases c5 : ((t125.size : Int) % 2) = 1
  ·rw [if_pos c5] at H
   have c5b0 : (((t125.size : Int) % 2) == 1) = true := beq_iff_eq.mpr c5
   have c5b1 : (((t125.size : Int) % 2) != 1) = false := bne_eq_false_iff_eq.mpr c5
   clear c5
   (first | rw [c5b0] | (simp only [i64_w, i32_w]; rw [c5b0]) | skip)
   by_cases c6 : t125.size + 1 ≤ 9223372036854775807
   ·rw [if_pos c6] at H
    have c6b0 := eq_true c6
    have c6b1 : decide (t125.size + 1 ≤ 9223372036854775807) = true := decide_eq_true c6
    try have c6b2 : (9223372036854775807 < t125.size + 1) = False := eq_false (Nat.not_lt.2 c6)
    have H' := Aside0.mk H
    clear H
    go_wp2
    repeat (go_quiet (fail); try go_wp2)
    go_meet
    case rel => exact ⟨_, (t125 ++ (⟨#[0]⟩ : ByteArray)), q8z4, H', ⟨qpfc⟩, ⟨qpag⟩⟩
   ·rw [if_neg c6] at H
    exact absurd H q6hr
  ·rw [if_neg c5] at H
   have c5b0 : (((t125.size : Int) % 2) == 1) = false := beq_eq_false_iff_ne.mpr c5
   have c5b1 : (((t125.size : Int) % 2) != 1) = true := bne_iff_ne.mpr c5
   (first | rw [c5b0] | (simp only [i64_w, i32_w]; rw [c5b0]) | skip)
   have H' := Aside0.mk H
   clear H
   go_wp2
   repeat (go_quiet (fail); try go_wp2)
   go_meet
   case rel => exact ⟨_, (t125), q8z4, H', ⟨qpfc⟩, ⟨qpag⟩⟩
 case rest =>
  clear HC3
  try clear p2
  try clear c5
  try clear c5b0
  try clear c5b1
  try clear c6
  try clear c6b0
  try clear c6b1
  try clear c6b2
  obtain ⟨kq, x3_2, rfl, HA, HJ2, HB⟩ := hcut
  cases kq with
  | zero => exact absurd HA.out (by simp [csum_total.j0])
  | succ kj2 =>
   have H := HA.out
   clear HA
   simp only [csum_total.j0] at H
   have H' := Aside0.mk H
   clear H
   go_wp2
   repeat (go_quiet (fail); try go_wp2)
   go_loopg [4, 5] kj2 (fun kq v4 v5 w' => ∃ (x4_2 : Int) (x5_2 : Int), v4 = .int .i64 x4_2 ∧ v5 = .int .i64 x5_2 ∧ Aside0 (csum_total.l0 kq x3_2 x4_2 x5_2 = some r) ∧ Aside0 (kq ≤ kj2) ∧ Aside0 (Below w.heap.size w w'))
   case atStart => exact ⟨(0), (0), q8z4, q8z4, H', ⟨Nat.le_refl _⟩, ⟨qpag⟩⟩
   case round =>
    clear H'
    try clear p2
    try clear c5
    try clear c5b0
    try clear c5b1
    try clear c6
    try clear c6b0
    try clear c6b1
    try clear c6b2
    try clear p2
    obtain ⟨x4_2, x5_2, rfl, rfl, HA, HK2, HB⟩ := hrel
    cases gk with
    | zero => exact absurd HA.out (by simp [csum_total.l0])
    | succ k2 =>
     have H := HA.out
     clear HA
     simp only [csum_total.l0] at H
     by_cases c7 : x5_2 < (x3_2.size : Int)
     ·rw [if_pos c7] at H
      have c7b0 : decide (x5_2 < (x3_2.size : Int)) = true := decide_eq_true c7
      clear c7
      by_cases c8 : 0 ≤ x5_2
      ·rw [if_pos c8] at H
       have c8b0 : decide (0 ≤ x5_2) = true := decide_eq_true c8
       clear c8
       obtain ⟨ji10, hji10⟩ : ∃ j_ : Int, (wrap64 (x5_2 + 1)) = j_ := ⟨_, rfl⟩
       replace H : (if 0 ≤ (ji10) then (if (ji10) < (x3_2.size : Int) then ((csum_fold.f k2 (wrap64 ((wrap64 (x4_2 + (wrap64 ((wrap64 (bt x3_2 x5_2)) * 256)))) + (wrap64 (bt x3_2 (ji10)))))).bind fun t126 => (csum_total.l0 k2 x3_2 t126 (wrap64 (x5_2 + 2)))) else (none)) else (none)) = some r := by first | (rw [hji10] at H; exact H) | (simp only [hji10] at H ⊢; exact H)
       have hji10w : (IntKind.i64.wrap (x5_2 + 1)) = ji10 := (i64_w _).trans hji10
       by_cases c11 : 0 ≤ (ji10)
       ·rw [if_pos c11] at H
        have c11b0 : decide (0 ≤ (ji10)) = true := decide_eq_true c11
        clear c11
        by_cases c12 : (ji10) < (x3_2.size : Int)
        ·rw [if_pos c12] at H
         have c12b0 : decide ((ji10) < (x3_2.size : Int)) = true := decide_eq_true c12
         clear c12
         replace H := Option.bind_eq_some_iff.mp H
         obtain ⟨t126, A140, H⟩ := H
         try dsimp only at H
         have A14 := Aside0.mk A140
         clear A140
         have H' := Aside0.mk H
         clear H
         have p9 : 0 ≤ (x5_2 : Int) := of_decide_eq_true qlss
         have q9 : x5_2 < (x3_2.size : Int) := of_decide_eq_true qlss
         have hx9 := bt_at x3_2 x5_2
         replace p9 := eq_true p9
         replace q9 := eq_true q9
         have p13 : 0 ≤ ((ji10) : Int) := of_decide_eq_true qlss
         have q13 : (ji10) < (x3_2.size : Int) := of_decide_eq_true qlss
         have hx13 := bt_at x3_2 (ji10)
         replace p13 := eq_true p13
         replace q13 := eq_true q13
         go_wp2_with (first | (go_at_call 79; (with_reducible refine (csum_fold.calls k2 (wrap64 ((wrap64 (x4_2 + (wrap64 ((wrap64 (bt x3_2 x5_2)) * 256)))) + (wrap64 (bt x3_2 (ji10))))) t126 _ A14.out).mono ?_); rintro e w' ⟨rfl, ⟨nd, rfl⟩⟩; (try first | exact ⟨rfl, _, World.drewN_drewN _ _ _⟩ | exact ⟨rfl, _, Eq.trans (World.drewN_drewN _ _ _) (congrArg (World.drewN _) (Nat.add_assoc _ _ _))⟩)))
         repeat (go_quiet (first | (go_at_call 79; (with_reducible refine (csum_fold.calls k2 (wrap64 ((wrap64 (x4_2 + (wrap64 ((wrap64 (bt x3_2 x5_2)) * 256)))) + (wrap64 (bt x3_2 (ji10))))) t126 _ A14.out).mono ?_); rintro e w' ⟨rfl, ⟨nd, rfl⟩⟩; (try first | exact ⟨rfl, _, World.drewN_drewN _ _ _⟩ | exact ⟨rfl, _, Eq.trans (World.drewN_drewN _ _ _) (congrArg (World.drewN _) (Nat.add_assoc _ _ _))⟩))); try go_wp2_with (first | (go_at_call 79; (with_reducible refine (csum_fold.calls k2 (wrap64 ((wrap64 (x4_2 + (wrap64 ((wrap64 (bt x3_2 x5_2)) * 256)))) + (wrap64 (bt x3_2 (ji10))))) t126 _ A14.out).mono ?_); rintro e w' ⟨rfl, ⟨nd, rfl⟩⟩; (try first | exact ⟨rfl, _, World.drewN_drewN _ _ _⟩ | exact ⟨rfl, _, Eq.trans (World.drewN_drewN _ _ _) (congrArg (World.drewN _) (Nat.add_assoc _ _ _))⟩))))
         go_roundg k2
         case measure => have := HJ2.out; have := HK2.out; omega
         case rel => exact ⟨(t126), (wrap64 (x5_2 + 2)), q8z4, q8z4, H', ⟨(by have := HJ2.out; have := HK2.out; omega)⟩, ⟨qpag⟩⟩
        ·rw [if_neg c12] at H
         exact absurd H q6hr
       ·rw [if_neg c11] at H
        exact absurd H q6hr
      ·rw [if_neg c8] at H
       exact absurd H q6hr
     ·rw [if_neg c7] at H
      have c7b0 : decide (x5_2 < (x3_2.size : Int)) = false := decide_eq_false c7
      clear c7
      obtain rfl := Option.some.inj H
      go_wp2
      repeat (go_quiet (fail); try go_wp2)
      go_ret
      exact ⟨qxu5, qpag⟩

/-! ### csum_Right: function 80 -/
def csum_Right.f (k : Nat) (l0 : List ByteArray) : Option (Bool) := (csum_total.f k l0).bind fun t127 => (some (t127 == 65535))
theorem csum_Right.mono : ∀ a0 k, LeO (csum_Right.f k a0) (csum_Right.f (k + 1) a0) := by
 intro a0 k
 unfold csum_Right.f
 repeat' first
   | (with_reducible exact csum_total.mono _ _)
   | (with_reducible exact LeO.refl _)
   | (with_reducible exact LeO.none _)
   | (with_reducible refine LeO.ite ?_ ?_)
   | (with_reducible refine LeO.bind ?_ (fun _ => ?_))
   | exact csum_total.mono _ _
   | exact LeO.none _
   | refine LeO.ite ?_ ?_
   | refine LeO.bind ?_ (fun _ => ?_)
set_option maxHeartbeats 8000000 in
set_option maxRecDepth 100000 in
theorem csum_Right.calls (k : Nat) (A0 : Option Addr) (c0 : Nat) (l0 : List ByteArray) (r : Bool) (w : World) (hr0 : Kd.C Kd.string w A0 l0.length l0) (hc0 : l0.length ≤ c0) (h : csum_Right.f k l0 = some r) :
  Calls Tryd.prog 80 #[.slice A0 l0.length c0] w fun e w' => e = .returned (.bool r) ∧ Below w.heap.size w w' := by
 have HR0 := Aside0.mk hr0
 have HC0 := Aside0.mk hc0
 clear hr0 hc0
 have HB := Aside0.mk (Below.refl w.heap.size w)
 have H := h
 unfold csum_Right.f at H
 clear h
 replace H := Option.bind_eq_some_iff.mp H
 obtain ⟨t127, A20, H⟩ := H
 try dsimp only at H
 have A2 := Aside0.mk A20
 clear A20
 obtain rfl := Option.some.inj H
 go_enter Tryd.func80, Tryd.ntmps80
 go_wp2_with (first | ((with_reducible refine gate_callee (f := 70) rfl ?_); refine goesL_ (some 4) rfl rfl Tryd.func70 qg3m rfl #[.slice A0 l0.length c0] rfl qraq ?_; (with_reducible refine (csum_total.calls k _ _ l0 t127 _ ?side1 ?side2 A2.out).mono ?_); (case side1 => repeat (first | exact HR0.out | (with_reducible refine Kd.C_alloc ?_ _) | (with_reducible refine Kd.C_drewN ?_ _) | (with_reducible refine Kd.C_drew ?_))); (case side2 => exact HC0.out); rintro e w3 ⟨rfl, hb⟩; refine ⟨_, rfl, ?_⟩; replace HB := Aside0.mk (below_step qpag hb); (try clear hb); (try clear hb2); (try clear hk); (try clear hi)))
 go_ret
 exact ⟨qxu5, qpag⟩

attribute [local go_sem] max2_int min2_int max_two min_two max_three min_three max_four min_four   -- for this text's walks alone
set_option linter.unusedVariables false
set_option linter.unusedSimpArgs false

theorem q1vr {p : Prop} (h : p := by repeat (first | (with_reducible first | exact HB.out | apply below_alloc | apply pw_below_drewN | apply below_drew1 | refine below_set ?_ GE451.out) | exact HB.out)) : p := h
theorem qe1t {p : Prop} (h : p := by with_reducible repeat (first | (apply blk_far; case hp => assumption) | apply blk_set | refine blk_drewN ?_ _ | refine blk_drew ?_ | refine blk_alloc ?_ _ | exact BK451.out)) : p := h
/-! ### inet_flags: function 49 -/
def inet_flags.f (a0_0 : Int) (a0_1 : Int) (a0_2 : Bool) (a0_3 : Bool) (a0_4 : Int) (a0_5 : Int) (a0_6 : Int) (a0_7 : Int) (a0_8 : Int) (a0_9 : ByteArray) : Option (Int) := if a0_2 = true then (if a0_3 = true then (some (Go.bits .or .i64 (Go.bits .or .i64 a0_4 16384) 8192)) else (some (Go.bits .or .i64 a0_4 16384))) else (if a0_3 = true then (some (Go.bits .or .i64 a0_4 8192)) else (some a0_4))
set_option maxHeartbeats 8000000 in
set_option maxRecDepth 100000 in
theorem inet_flags.calls (a0_0 : Int) (a0_1 : Int) (a0_2 : Bool) (a0_3 : Bool) (a0_4 : Int) (a0_5 : Int) (a0_6 : Int) (a0_7 : Int) (a0_8 : Int) (a0_9 : ByteArray) (r : Int) (w : World) (h : inet_flags.f a0_0 a0_1 a0_2 a0_3 a0_4 a0_5 a0_6 a0_7 a0_8 a0_9 = some r) :
  Calls Tryd.prog 49 #[.agg #[.int .i64 a0_0, .int .i64 a0_1, .bool a0_2, .bool a0_3, .int .i64 a0_4, .int .i64 a0_5, .int .i64 a0_6, .int .u32 a0_7, .int .u32 a0_8, .string a0_9]] w fun e w' => e = .returned (.int .i64 r) ∧ Below w.heap.size w w' := by
 have hu64 := Tryd.underlying64
 have HB := Aside0.mk (Below.refl w.heap.size w)
 have H := h
 unfold inet_flags.f at H
 clear h
 by_cases c2 : a0_2 = true
 ·subst c2
  rw [if_pos rfl] at H
  by_cases c3 : a0_3 = true
  ·subst c3
   rw [if_pos rfl] at H
   obtain rfl := Option.some.inj H
   go_enter Tryd.func49, Tryd.ntmps49
   go_wp2_with (first | ((with_reducible refine gate_st (ty := 64) rfl ?_); refine storeC10 rfl rfl rfl rfl rfl qe1t qr2c qg3m rfl ?_) | ((with_reducible refine gate_ld (ty := 64) rfl ?_); (try (with_reducible refine gate_gd rfl ?_; refine gate_guard q8ju ?_; dsimp only)); refine load_st rfl rfl rfl qe1t qr2c Tryd.underlying64 rfl qg3m ?_; (try simp only [Act.put, List.setIfInBounds_toArray, List.set_cons_zero, List.set_cons_succ])) | ((with_reducible refine gate_dst (N := 1) rfl ?_); refine box_event qgcr (N := 1) qgcr (cs := #[.int .i64 a0_0, .int .i64 a0_1, .bool true, .bool true, .int .i64 a0_4, .int .i64 a0_5, .int .i64 a0_6, .int .u32 a0_7, .int .u32 a0_8, .string a0_9]) (t := 64) qlto ?_; intro gb451 hg w4 hbox hb; have BK451 := Aside0.mk (hbox); have GE451 := Aside0.mk ((qisx : w.heap.size ≤ gb451)); replace HB := Aside0.mk (below_step qpag hb); clear hb hbox hg; obtain ⟨hcz5_0, hcz5_1, hcz5_2, hcz5_3, hcz5_4, hcz5_5, hcz5_6, hcz5_7, hcz5_8, hcz5_9⟩ := cells10 BK451.out; obtain ⟨hfz5_0, hfz5_1, hfz5_2, hfz5_3, hfz5_4, hfz5_5, hfz5_6, hfz5_7, hfz5_8, hfz5_9⟩ := frozen10 BK451.out))
   go_ret
   exact ⟨qxu5, q1vr⟩
  ·replace c3 := Bool.eq_false_iff.mpr c3
   subst c3
   rw [if_neg (show ¬ (false = true) by decide)] at H
   obtain rfl := Option.some.inj H
   go_enter Tryd.func49, Tryd.ntmps49
   go_wp2_with (first | ((with_reducible refine gate_st (ty := 64) rfl ?_); refine storeC10 rfl rfl rfl rfl rfl qe1t qr2c qg3m rfl ?_) | ((with_reducible refine gate_ld (ty := 64) rfl ?_); (try (with_reducible refine gate_gd rfl ?_; refine gate_guard q8ju ?_; dsimp only)); refine load_st rfl rfl rfl qe1t qr2c Tryd.underlying64 rfl qg3m ?_; (try simp only [Act.put, List.setIfInBounds_toArray, List.set_cons_zero, List.set_cons_succ])) | ((with_reducible refine gate_dst (N := 1) rfl ?_); refine box_event qgcr (N := 1) qgcr (cs := #[.int .i64 a0_0, .int .i64 a0_1, .bool true, .bool false, .int .i64 a0_4, .int .i64 a0_5, .int .i64 a0_6, .int .u32 a0_7, .int .u32 a0_8, .string a0_9]) (t := 64) qlto ?_; intro gb451 hg w6 hbox hb; have BK451 := Aside0.mk (hbox); have GE451 := Aside0.mk ((qisx : w.heap.size ≤ gb451)); replace HB := Aside0.mk (below_step qpag hb); clear hb hbox hg; obtain ⟨hcz7_0, hcz7_1, hcz7_2, hcz7_3, hcz7_4, hcz7_5, hcz7_6, hcz7_7, hcz7_8, hcz7_9⟩ := cells10 BK451.out; obtain ⟨hfz7_0, hfz7_1, hfz7_2, hfz7_3, hfz7_4, hfz7_5, hfz7_6, hfz7_7, hfz7_8, hfz7_9⟩ := frozen10 BK451.out))
   go_ret
   exact ⟨qxu5, q1vr⟩
 ·replace c2 := Bool.eq_false_iff.mpr c2
  subst c2
  rw [if_neg (show ¬ (false = true) by decide)] at H
  by_cases c8 : a0_3 = true
  ·subst c8
   rw [if_pos rfl] at H
   obtain rfl := Option.some.inj H
   go_enter Tryd.func49, Tryd.ntmps49
   go_wp2_with (first | ((with_reducible refine gate_st (ty := 64) rfl ?_); refine storeC10 rfl rfl rfl rfl rfl qe1t qr2c qg3m rfl ?_) | ((with_reducible refine gate_ld (ty := 64) rfl ?_); (try (with_reducible refine gate_gd rfl ?_; refine gate_guard q8ju ?_; dsimp only)); refine load_st rfl rfl rfl qe1t qr2c Tryd.underlying64 rfl qg3m ?_; (try simp only [Act.put, List.setIfInBounds_toArray, List.set_cons_zero, List.set_cons_succ])) | ((with_reducible refine gate_dst (N := 1) rfl ?_); refine box_event qgcr (N := 1) qgcr (cs := #[.int .i64 a0_0, .int .i64 a0_1, .bool false, .bool true, .int .i64 a0_4, .int .i64 a0_5, .int .i64 a0_6, .int .u32 a0_7, .int .u32 a0_8, .string a0_9]) (t := 64) qlto ?_; intro gb451 hg w9 hbox hb; have BK451 := Aside0.mk (hbox); have GE451 := Aside0.mk ((qisx : w.heap.size ≤ gb451)); replace HB := Aside0.mk (below_step qpag hb); clear hb hbox hg; obtain ⟨hcz10_0, hcz10_1, hcz10_2, hcz10_3, hcz10_4, hcz10_5, hcz10_6, hcz10_7, hcz10_8, hcz10_9⟩ := cells10 BK451.out; obtain ⟨hfz10_0, hfz10_1, hfz10_2, hfz10_3, hfz10_4, hfz10_5, hfz10_6, hfz10_7, hfz10_8, hfz10_9⟩ := frozen10 BK451.out))
   go_ret
   exact ⟨qxu5, q1vr⟩
  ·replace c8 := Bool.eq_false_iff.mpr c8
   subst c8
   rw [if_neg (show ¬ (false = true) by decide)] at H
   obtain rfl := Option.some.inj H
   go_enter Tryd.func49, Tryd.ntmps49
   go_wp2_with (first | ((with_reducible refine gate_st (ty := 64) rfl ?_); refine storeC10 rfl rfl rfl rfl rfl qe1t qr2c qg3m rfl ?_) | ((with_reducible refine gate_ld (ty := 64) rfl ?_); (try (with_reducible refine gate_gd rfl ?_; refine gate_guard q8ju ?_; dsimp only)); refine load_st rfl rfl rfl qe1t qr2c Tryd.underlying64 rfl qg3m ?_; (try simp only [Act.put, List.setIfInBounds_toArray, List.set_cons_zero, List.set_cons_succ])) | ((with_reducible refine gate_dst (N := 1) rfl ?_); refine box_event qgcr (N := 1) qgcr (cs := #[.int .i64 a0_0, .int .i64 a0_1, .bool false, .bool false, .int .i64 a0_4, .int .i64 a0_5, .int .i64 a0_6, .int .u32 a0_7, .int .u32 a0_8, .string a0_9]) (t := 64) qlto ?_; intro gb451 hg w11 hbox hb; have BK451 := Aside0.mk (hbox); have GE451 := Aside0.mk ((qisx : w.heap.size ≤ gb451)); replace HB := Aside0.mk (below_step qpag hb); clear hb hbox hg; obtain ⟨hcz12_0, hcz12_1, hcz12_2, hcz12_3, hcz12_4, hcz12_5, hcz12_6, hcz12_7, hcz12_8, hcz12_9⟩ := cells10 BK451.out; obtain ⟨hfz12_0, hfz12_1, hfz12_2, hfz12_3, hfz12_4, hfz12_5, hfz12_6, hfz12_7, hfz12_8, hfz12_9⟩ := frozen10 BK451.out))
   go_ret
   exact ⟨qxu5, q1vr⟩

attribute [local go_sem] max2_int min2_int max_two min_two max_three min_three max_four min_four   -- for this text's walks alone
set_option linter.unusedVariables false
set_option linter.unusedSimpArgs false

/-! ### csum_Head: function 45 -/
def csum_Head.f (k : Nat) (a0 : Int) (a1 : Int) (a2 : Int) (a3 : Int) : Option (ByteArray) := (octets_Put.f k (IntKind.u64.wrap (a0)) 4).bind fun bt178 => ((octets_Put.f k (IntKind.u64.wrap (a1)) 4).bind fun bt180 => ((octets_Put.f k (IntKind.u64.wrap (Go.bits .and .i64 a3 65535)) 2).bind fun bt182 => (if bt178.1.size + bt180.1.size ≤ 9223372036854775807 then ((some (([0, (a2) % 256] : List Int) : List Int)).bind fun y184 => (if (bt178.1 ++ bt180.1).size + (strOfNums y184).size ≤ 9223372036854775807 then (if ((bt178.1 ++ bt180.1) ++ (strOfNums y184)).size + bt182.1.size ≤ 9223372036854775807 then (some (((bt178.1 ++ bt180.1) ++ (strOfNums y184)) ++ bt182.1)) else (none)) else (none))) else (none))))
theorem csum_Head.mono : ∀ a0 a1 a2 a3 k, LeO (csum_Head.f k a0 a1 a2 a3) (csum_Head.f (k + 1) a0 a1 a2 a3) := by
 intro a0 a1 a2 a3 k
 unfold csum_Head.f
 repeat' first
   | (with_reducible exact octets_Put.mono _ _ _)
   | (with_reducible exact LeO.refl _)
   | (with_reducible exact LeO.none _)
   | (with_reducible refine LeO.ite ?_ ?_)
   | (with_reducible refine LeO.bind ?_ (fun _ => ?_))
   | exact octets_Put.mono _ _ _
   | exact LeO.none _
   | refine LeO.ite ?_ ?_
   | refine LeO.bind ?_ (fun _ => ?_)
set_option maxHeartbeats 8000000 in
set_option maxRecDepth 100000 in
theorem csum_Head.calls (k : Nat) (a0 : Int) (a1 : Int) (a2 : Int) (a3 : Int) (r : ByteArray) (w : World) (h : csum_Head.f k a0 a1 a2 a3 = some r) :
  Calls Tryd.prog 45 #[.int .u32 a0, .int .u32 a1, .int .i64 a2, .int .i64 a3] w fun e w' => e = .returned (.string r) ∧ Below w.heap.size w w' := by
 have HB := Aside0.mk (Below.refl w.heap.size w)
 have H := h
 unfold csum_Head.f at H
 clear h
 replace H := Option.bind_eq_some_iff.mp H
 obtain ⟨⟨t178, t179⟩, A50, H⟩ := H
 try dsimp only at H
 have A5 := Aside0.mk A50
 clear A50
 replace H := Option.bind_eq_some_iff.mp H
 obtain ⟨⟨t180, t181⟩, A60, H⟩ := H
 try dsimp only at H
 have A6 := Aside0.mk A60
 clear A60
 replace H := Option.bind_eq_some_iff.mp H
 obtain ⟨⟨t182, t183⟩, A70, H⟩ := H
 try dsimp only at H
 have A7 := Aside0.mk A70
 clear A70
 by_cases c8 : t178.size + t180.size ≤ 9223372036854775807
 ·rw [if_pos c8] at H
  have c8b0 := eq_true c8
  have c8b1 : decide (t178.size + t180.size ≤ 9223372036854775807) = true := decide_eq_true c8
  try have c8b2 : (9223372036854775807 < t178.size + t180.size) = False := eq_false (Nat.not_lt.2 c8)
  obtain ⟨y184, hy184⟩ : ∃ y_ : List Int, y_ = (([0, (a2) % 256] : List Int)) := ⟨_, rfl⟩
  replace H : (if (t178 ++ t180).size + (strOfNums y184).size ≤ 9223372036854775807 then (if ((t178 ++ t180) ++ (strOfNums y184)).size + t182.size ≤ 9223372036854775807 then (some (((t178 ++ t180) ++ (strOfNums y184)) ++ t182)) else (none)) else (none)) = some r := by first | (rw [hy184]; with_reducible exact H) | (have H2_ := (Option.bind_some _ _).symm.trans H; rw [hy184]; with_reducible exact H2_) | (have H2_ := (Option.bind_some _ _).symm.trans H; with_reducible exact H2_) | with_reducible exact H | (rw [hy184]; exact H) | exact H
  have Ny184 := Aside0.mk hy184
  clear hy184
  by_cases c9 : (t178 ++ t180).size + (strOfNums y184).size ≤ 9223372036854775807
  ·rw [if_pos c9] at H
   have c9b0 := eq_true c9
   have c9b1 : decide ((t178 ++ t180).size + (strOfNums y184).size ≤ 9223372036854775807) = true := decide_eq_true c9
   have c9z := c9
   simp only [ByteArray.size_append] at c9z
   have c9z1 := eq_true c9z
   have c9z2 := eq_false (Nat.not_lt.2 c9z)
   try have c9b2 : (9223372036854775807 < (t178 ++ t180).size + (strOfNums y184).size) = False := eq_false (Nat.not_lt.2 c9)
   by_cases c10 : ((t178 ++ t180) ++ (strOfNums y184)).size + t182.size ≤ 9223372036854775807
   ·rw [if_pos c10] at H
    have c10b0 := eq_true c10
    have c10b1 : decide (((t178 ++ t180) ++ (strOfNums y184)).size + t182.size ≤ 9223372036854775807) = true := decide_eq_true c10
    have c10z := c10
    simp only [ByteArray.size_append] at c10z
    have c10z1 := eq_true c10z
    have c10z2 := eq_false (Nat.not_lt.2 c10z)
    try have c10b2 : (9223372036854775807 < ((t178 ++ t180) ++ (strOfNums y184)).size + t182.size) = False := eq_false (Nat.not_lt.2 c10)
    obtain rfl := Option.some.inj H
    go_enter Tryd.func45, Tryd.ntmps45
    go_wp2_with (first | ((with_reducible refine gate_callee (f := 47) rfl ?_); refine goesL_ (some 18) rfl rfl Tryd.func47 qg3m rfl #[.int .u64 (IntKind.u64.wrap (a0)), .int .i64 4] rfl qraq ?_; (with_reducible refine (octets_Put.calls k (IntKind.u64.wrap (a0)) 4 t178 t179 _ A5.out).mono ?_); rintro e w11 ⟨rfl, hb⟩; refine ⟨_, rfl, ?_⟩; replace HB := Aside0.mk (below_step qpag hb); (try clear hb); (try clear hb2); (try clear hk); (try clear hi)) | ((with_reducible refine gate_callee (f := 47) rfl ?_); refine goesL_ (some 24) rfl rfl Tryd.func47 qg3m rfl #[.int .u64 (IntKind.u64.wrap (a1)), .int .i64 4] rfl qraq ?_; (with_reducible refine (octets_Put.calls k (IntKind.u64.wrap (a1)) 4 t180 t181 _ A6.out).mono ?_); rintro e w12 ⟨rfl, hb⟩; refine ⟨_, rfl, ?_⟩; replace HB := Aside0.mk (below_step qpag hb); (try clear hb); (try clear hb2); (try clear hk); (try clear hi)) | ((with_reducible refine gate_callee (f := 47) rfl ?_); refine goesL_ (some 31) rfl rfl Tryd.func47 qg3m rfl #[.int .u64 (IntKind.u64.wrap (Go.bits .and .i64 a3 65535)), .int .i64 2] rfl qraq ?_; (with_reducible refine (octets_Put.calls k (IntKind.u64.wrap (Go.bits .and .i64 a3 65535)) 2 t182 t183 _ A7.out).mono ?_); rintro e w13 ⟨rfl, hb⟩; refine ⟨_, rfl, ?_⟩; replace HB := Aside0.mk (below_step qpag hb); (try clear hb); (try clear hb2); (try clear hk); (try clear hi)) | ((with_reducible refine gate_dst (N := 39) rfl ?_); refine Kd.R_lit (Kd.int .u8) _ 5 ?hg (N := 39) ?hd (xs := ([0, (a2) % 256] : List Int)) (inner := [.int .u8 0, .int .u8 ((a2) % 256)]) (ok := fun _ => True) (okp := fun _ => True) ?hr ?hp (fun _ hk => hk) trivial (Below.refl _ _) (Nat.le_refl _) q6hr ?_; (case hd => rfl); (case hg => rfl); (case hr => first | (go_simp; done) | (go_simp; rfl)); (case hp => exact (Reps.one (show Kd.M (Kd.int .u8) _ _ _ 0 [.int .u8 0] from rfl) (Reps.one (show Kd.M (Kd.int .u8) _ _ _ ((a2) % 256) [.int .u8 ((a2) % 256)] from rfl) (Reps.none _ _)))); intro v185 w14 ho15 hb hg_ hnew_; clear hg_ hnew_; (first | rw [← Ny184.out] at ho15 | (simp only [Int.reduceToNat] at ho15; rw [← Ny184.out] at ho15)); have HO186 := Aside0.mk (Kd.R_lower ho15 (below_size qpag)); replace HB := Aside0.mk (below_step qpag hb); clear hb ho15; have hcv16 := own_string (P := Tryd.prog) Tryd.underlying48 Tryd.underlying5 Tryd.underlying9 (Kd.own_of_R HO186.out)))
    go_ret
    exact ⟨qxu5, qpag⟩
   ·rw [if_neg c10] at H
    exact absurd H q6hr
  ·rw [if_neg c9] at H
   exact absurd H q6hr
 ·rw [if_neg c8] at H
  exact absurd H q6hr

end Go.Proofs.YtbkgaplldfilnaaDoor.P
