-- slim
-- Written by wip/hprint.py (this session's program) through the kit's print program; hand contracts are marked 'by hand'.
import Derived.Test.YtbkgaplldfilnaaDoorAbb
import Derived.Test.YtbkgaplldfilnaaDoorPx0
import Derived.Test.YtbkgaplldfilnaaDoorPx8
import Derived.Test.YtbkgaplldfilnaaDoorRow
namespace Go.Proofs.YtbkgaplldfilnaaDoor.P
open Go.RowKit Go.Proofs.YtbkgaplldfilnaaDoorW.PrintWords Go.Proofs.YtbkgaplldfilnaaDoorW.PrintLast Go.Proofs.YtbkgaplldfilnaaDoorW.PrintMore
attribute [local go_sem] max2_int min2_int max_two min_two max_three min_three max_four min_four   -- for this text's walks alone
set_option linter.unusedVariables false
set_option linter.unusedSimpArgs false

/-! ### csum_total: function 70 -/
mutual
def csum_total.j0 : Nat → ByteArray → Option (Int)
 | 0, _ => none
 | k + 1, x3 => csum_total.l0 k x3 0 0
def csum_total.l0 : Nat → ByteArray → Int → Int → Option (Int)
 | 0, _, _, _ => none
 | k + 1, x3, x4, x5 => if x5 < (x3.size : Int) then (if 0 ≤ x5 then (if 0 ≤ (wrap64 (x5 + 1)) then (if (wrap64 (x5 + 1)) < (x3.size : Int) then ((csum_fold.f k (wrap64 ((wrap64 (x4 + (wrap64 ((wrap64 (bt x3 x5)) * 256)))) + (wrap64 (bt x3 (wrap64 (x5 + 1))))))).bind fun t126 => (csum_total.l0 k x3 t126 (wrap64 (x5 + 2)))) else (none)) else (none)) else (none)) else (some x4)
end
def csum_total.f (k : Nat) (l0 : List ByteArray) : Option (Int) := (strings_Join.f l0 (⟨#[]⟩ : ByteArray)).bind fun t125 => (if ((t125.size : Int) % 2) = 1 then (if t125.size + 1 ≤ 9223372036854775807 then (csum_total.j0 k (t125 ++ (⟨#[0]⟩ : ByteArray))) else (none)) else (csum_total.j0 k t125))
theorem csum_total.mono_l : ∀ k, (∀ y0, LeO (csum_total.j0 k y0) (csum_total.j0 (k + 1) y0)) ∧ (∀ y0 y1 y2, LeO (csum_total.l0 k y0 y1 y2) (csum_total.l0 (k + 1) y0 y1 y2))
 | 0 => ⟨fun _ r h => by simp [csum_total.j0] at h, fun _ _ _ r h => by simp [csum_total.l0] at h⟩
 | k + 1 => by
  obtain ⟨ih0, ih1⟩ := csum_total.mono_l k
  refine ⟨?_, ?_⟩
  ·intro y0
   unfold csum_total.j0
   repeat' first
   | (with_reducible exact ih0 _)
   | (with_reducible exact ih1 _ _ _)
   | (with_reducible exact csum_fold.mono _ _)
   | (with_reducible exact LeO.refl _)
   | (with_reducible exact LeO.none _)
   | (with_reducible refine LeO.ite ?_ ?_)
   | (with_reducible refine LeO.bind ?_ (fun _ => ?_))
   | exact ih0 _
   | exact ih1 _ _ _
   | exact csum_fold.mono _ _
   | exact LeO.none _
   | refine LeO.ite ?_ ?_
   | refine LeO.bind ?_ (fun _ => ?_)
  ·intro y0 y1 y2
   unfold csum_total.l0
   repeat' first
   | (with_reducible exact ih0 _)
   | (with_reducible exact ih1 _ _ _)
   | (with_reducible exact csum_fold.mono _ _)
   | (with_reducible exact LeO.refl _)
   | (with_reducible exact LeO.none _)
   | (with_reducible refine LeO.ite ?_ ?_)
   | (with_reducible refine LeO.bind ?_ (fun _ => ?_))
   | exact ih0 _
   | exact ih1 _ _ _
   | exact csum_fold.mono _ _
   | exact LeO.none _
   | refine LeO.ite ?_ ?_
   | refine LeO.bind ?_ (fun _ => ?_)
theorem csum_total.mono : ∀ a0 k, LeO (csum_total.f k a0) (csum_total.f (k + 1) a0) := by
 intro a0 k
 obtain ⟨ih0, ih1⟩ := csum_total.mono_l k
 unfold csum_total.f
 repeat' first
   | (with_reducible exact ih0 _)
   | (with_reducible exact ih1 _ _ _)
   | (with_reducible exact csum_fold.mono _ _)
   | (with_reducible exact LeO.refl _)
   | (with_reducible exact LeO.none _)
   | (with_reducible refine LeO.ite ?_ ?_)
   | (with_reducible refine LeO.bind ?_ (fun _ => ?_))
   | exact ih0 _
   | exact ih1 _ _ _
   | exact csum_fold.mono _ _
   | exact LeO.none _
   | refine LeO.ite ?_ ?_
   | refine LeO.bind ?_ (fun _ => ?_)
set_option maxHeartbeats 8000000 in
set_option maxRecDepth 100000 in
theorem csum_total.calls (k : Nat) (A0 : Option Addr) (c0 : Nat) (l0 : List ByteArray) (r : Int) (w : World) (hr0 : Kd.C Kd.string w A0 l0.length l0) (hc0 : l0.length ≤ c0) (h : csum_total.f k l0 = some r) :
  Calls Tryd.prog 70 #[.slice A0 l0.length c0] w fun e w' => e = .returned (.int .i64 r) ∧ Below w.heap.size w w' := by
 have HR0 := Aside0.mk hr0
 have HC0 := Aside0.mk hc0
 clear hr0 hc0
 have HB := Aside0.mk (Below.refl w.heap.size w)
 have H : ((strings_Join.f l0 (⟨#[]⟩ : ByteArray)).bind fun t125 => (if ((t125.size : Int) % 2) = 1 then (if t125.size + 1 ≤ 9223372036854775807 then (csum_total.j0 k (t125 ++ (⟨#[0]⟩ : ByteArray))) else (none)) else (csum_total.j0 k t125))) = some r := h
 clear h
 replace H := Option.bind_eq_some_iff.mp H
 obtain ⟨t125, A20, H⟩ := H
 try dsimp only at H
 have A2 := Aside0.mk A20
 clear A20
 have HC3 := Aside0.mk H
 clear H
 go_enter Tryd.func70, Tryd.ntmps70
 go_upto_if 11 with (first | (go_at_call 78; (with_reducible refine (strings_Join.calls _ _ l0 (⟨#[]⟩ : ByteArray) t125 _ ?side1 ?side2 A2.out).mono ?_); (case side1 => repeat (first | exact HR0.out | (with_reducible refine Kd.C_alloc ?_ _) | (with_reducible refine Kd.C_drewN ?_ _) | (with_reducible refine Kd.C_drew ?_))); (case side2 => exact HC0.out); rintro e w4 ⟨rfl, hb⟩; replace HB := Aside0.mk (below_step qpag hb); (try clear hb); (try clear hb2); (try clear hk); (try clear hi)))
 repeat (go_quiet (first | (go_at_call 78; (with_reducible refine (strings_Join.calls _ _ l0 (⟨#[]⟩ : ByteArray) t125 _ ?side1 ?side2 A2.out).mono ?_); (case side1 => repeat (first | exact HR0.out | (with_reducible refine Kd.C_alloc ?_ _) | (with_reducible refine Kd.C_drewN ?_ _) | (with_reducible refine Kd.C_drew ?_))); (case side2 => exact HC0.out); rintro e w4 ⟨rfl, hb⟩; replace HB := Aside0.mk (below_step qpag hb); (try clear hb); (try clear hb2); (try clear hk); (try clear hi))); go_upto_if 11 with (first | (go_at_call 78; (with_reducible refine (strings_Join.calls _ _ l0 (⟨#[]⟩ : ByteArray) t125 _ ?side1 ?side2 A2.out).mono ?_); (case side1 => repeat (first | exact HR0.out | (with_reducible refine Kd.C_alloc ?_ _) | (with_reducible refine Kd.C_drewN ?_ _) | (with_reducible refine Kd.C_drew ?_))); (case side2 => exact HC0.out); rintro e w4 ⟨rfl, hb⟩; replace HB := Aside0.mk (below_step qpag hb); (try clear hb); (try clear hb2); (try clear hk); (try clear hi))))
 (try simp only [Act.put, List.setIfInBounds_toArray, List.set_cons_zero, List.set_cons_succ])
 go_cut [3] (fun v3 wc => ∃ (kq : Nat) (x3_2 : ByteArray), v3 = .string x3_2 ∧ Aside0 (csum_total.j0 kq x3_2 = some r) ∧ Aside0 (kq ≤ k) ∧ Aside0 (Below w.heap.size w wc))
 case first =>
  have H := HC3.out
  clear HC3
  by_cases c5 : ((t125.size : Int) % 2) = 1
  ·rw [if_pos c5] at H
   have c5b0 : (((t125.size : Int) % 2) == 1) = true := beq_iff_eq.mpr c5
   have c5b1 : (((t125.size : Int) % 2) != 1) = false := bne_eq_false_iff_eq.mpr c5
   clear c5
   (first | rw [c5b0] | (simp only [i64_w, i32_w]; rw [c5b0]) | skip)
   by_cases c6 : t125.size + 1 ≤ 9223372036854775807
   ·rw [if_pos c6] at H
    have c6b0 := eq_true c6
    have c6b1 : decide (t125.size + 1 ≤ 9223372036854775807) = true := decide_eq_true c6
    try have c6b2 : (9223372036854775807 < t125.size + 1) = False := eq_false (Nat.not_lt.2 c6)
    have H' := Aside0.mk H
    clear H
    go_wp2
    repeat (go_quiet (fail); try go_wp2)
    go_meet
    case rel => exact ⟨_, (t125 ++ (⟨#[0]⟩ : ByteArray)), q8z4, H', ⟨qpfc⟩, ⟨qpag⟩⟩
   ·rw [if_neg c6] at H
    exact absurd H q6hr
  ·rw [if_neg c5] at H
   have c5b0 : (((t125.size : Int) % 2) == 1) = false := beq_eq_false_iff_ne.mpr c5
   have c5b1 : (((t125.size : Int) % 2) != 1) = true := bne_iff_ne.mpr c5
   (first | rw [c5b0] | (simp only [i64_w, i32_w]; rw [c5b0]) | skip)
   have H' := Aside0.mk H
   clear H
   go_wp2
   repeat (go_quiet (fail); try go_wp2)
   go_meet
   case rel => exact ⟨_, (t125), q8z4, H', ⟨qpfc⟩, ⟨qpag⟩⟩
 case rest =>
  clear HC3
  try clear p2
  try clear c5
  try clear c5b0
  try clear c5b1
  try clear c6
  try clear c6b0
  try clear c6b1
  try clear c6b2
  obtain ⟨kq, x3_2, rfl, HA, HJ2, HB⟩ := hcut
  cases kq with
  | zero => exact absurd HA.out (by simp [csum_total.j0])
  | succ kj2 =>
   have H := HA.out
   clear HA
   simp only [csum_total.j0] at H
   have H' := Aside0.mk H
   clear H
   go_wp2
   repeat (go_quiet (fail); try go_wp2)
   go_loopg [4, 5] kj2 (fun kq v4 v5 w' => ∃ (x4_2 : Int) (x5_2 : Int), v4 = .int .i64 x4_2 ∧ v5 = .int .i64 x5_2 ∧ Aside0 (csum_total.l0 kq x3_2 x4_2 x5_2 = some r) ∧ Aside0 (kq ≤ kj2) ∧ Aside0 (Below w.heap.size w w'))
   case atStart => exact ⟨(0), (0), q8z4, q8z4, H', ⟨Nat.le_refl _⟩, ⟨qpag⟩⟩
   case round =>
    clear H'
    try clear p2
    try clear c5
    try clear c5b0
    try clear c5b1
    try clear c6
    try clear c6b0
    try clear c6b1
    try clear c6b2
    try clear p2
    obtain ⟨x4_2, x5_2, rfl, rfl, HA, HK2, HB⟩ := hrel
    cases gk with
    | zero => exact absurd HA.out (by simp [csum_total.l0])
    | succ k2 =>
     have H := HA.out
     clear HA
     simp only [csum_total.l0] at H
     by_cases c7 : x5_2 < (x3_2.size : Int)
     ·rw [if_pos c7] at H
      have c7b0 : decide (x5_2 < (x3_2.size : Int)) = true := decide_eq_true c7
      clear c7
      by_cases c8 : 0 ≤ x5_2
      ·rw [if_pos c8] at H
       have c8b0 : decide (0 ≤ x5_2) = true := decide_eq_true c8
       clear c8
       obtain ⟨ji10, hji10⟩ : ∃ j_ : Int, (wrap64 (x5_2 + 1)) = j_ := ⟨_, rfl⟩
       replace H : (if 0 ≤ (ji10) then (if (ji10) < (x3_2.size : Int) then ((csum_fold.f k2 (wrap64 ((wrap64 (x4_2 + (wrap64 ((wrap64 (bt x3_2 x5_2)) * 256)))) + (wrap64 (bt x3_2 (ji10)))))).bind fun t126 => (csum_total.l0 k2 x3_2 t126 (wrap64 (x5_2 + 2)))) else (none)) else (none)) = some r := by first | (rw [hji10] at H; exact H) | (simp only [hji10] at H ⊢; exact H)
       have hji10w : (IntKind.i64.wrap (x5_2 + 1)) = ji10 := (i64_w _).trans hji10
       by_cases c11 : 0 ≤ (ji10)
       ·rw [if_pos c11] at H
        have c11b0 : decide (0 ≤ (ji10)) = true := decide_eq_true c11
        clear c11
        by_cases c12 : (ji10) < (x3_2.size : Int)
        ·rw [if_pos c12] at H
         have c12b0 : decide ((ji10) < (x3_2.size : Int)) = true := decide_eq_true c12
         clear c12
         replace H := Option.bind_eq_some_iff.mp H
         obtain ⟨t126, A140, H⟩ := H
         try dsimp only at H
         have A14 := Aside0.mk A140
         clear A140
         have H' := Aside0.mk H
         clear H
         have p9 : 0 ≤ (x5_2 : Int) := of_decide_eq_true qlss
         have q9 : x5_2 < (x3_2.size : Int) := of_decide_eq_true qlss
         have hx9 := bt_at x3_2 x5_2
         replace p9 := eq_true p9
         replace q9 := eq_true q9
         have p13 : 0 ≤ ((ji10) : Int) := of_decide_eq_true qlss
         have q13 : (ji10) < (x3_2.size : Int) := of_decide_eq_true qlss
         have hx13 := bt_at x3_2 (ji10)
         replace p13 := eq_true p13
         replace q13 := eq_true q13
         go_wp2_with (first | (go_at_call 79; (with_reducible refine (csum_fold.calls k2 (wrap64 ((wrap64 (x4_2 + (wrap64 ((wrap64 (bt x3_2 x5_2)) * 256)))) + (wrap64 (bt x3_2 (ji10))))) t126 _ A14.out).mono ?_); rintro e w' ⟨rfl, ⟨nd, rfl⟩⟩; (try first | exact ⟨rfl, _, World.drewN_drewN _ _ _⟩ | exact ⟨rfl, _, Eq.trans (World.drewN_drewN _ _ _) (congrArg (World.drewN _) (Nat.add_assoc _ _ _))⟩)))
         repeat (go_quiet (first | (go_at_call 79; (with_reducible refine (csum_fold.calls k2 (wrap64 ((wrap64 (x4_2 + (wrap64 ((wrap64 (bt x3_2 x5_2)) * 256)))) + (wrap64 (bt x3_2 (ji10))))) t126 _ A14.out).mono ?_); rintro e w' ⟨rfl, ⟨nd, rfl⟩⟩; (try first | exact ⟨rfl, _, World.drewN_drewN _ _ _⟩ | exact ⟨rfl, _, Eq.trans (World.drewN_drewN _ _ _) (congrArg (World.drewN _) (Nat.add_assoc _ _ _))⟩))); try go_wp2_with (first | (go_at_call 79; (with_reducible refine (csum_fold.calls k2 (wrap64 ((wrap64 (x4_2 + (wrap64 ((wrap64 (bt x3_2 x5_2)) * 256)))) + (wrap64 (bt x3_2 (ji10))))) t126 _ A14.out).mono ?_); rintro e w' ⟨rfl, ⟨nd, rfl⟩⟩; (try first | exact ⟨rfl, _, World.drewN_drewN _ _ _⟩ | exact ⟨rfl, _, Eq.trans (World.drewN_drewN _ _ _) (congrArg (World.drewN _) (Nat.add_assoc _ _ _))⟩))))
         go_roundg k2
         case measure => have := HJ2.out; have := HK2.out; omega
         case rel => exact ⟨(t126), (wrap64 (x5_2 + 2)), q8z4, q8z4, H', ⟨(by have := HJ2.out; have := HK2.out; omega)⟩, ⟨qpag⟩⟩
        ·rw [if_neg c12] at H
         exact absurd H q6hr
       ·rw [if_neg c11] at H
        exact absurd H q6hr
      ·rw [if_neg c8] at H
       exact absurd H q6hr
     ·rw [if_neg c7] at H
      have c7b0 : decide (x5_2 < (x3_2.size : Int)) = false := decide_eq_false c7
      clear c7
      obtain rfl := Option.some.inj H
      go_wp2
      repeat (go_quiet (fail); try go_wp2)
      go_ret
      exact ⟨qxu5, qpag⟩

/-! ### csum_Right: function 80 -/
def csum_Right.f (k : Nat) (l0 : List ByteArray) : Option (Bool) := (csum_total.f k l0).bind fun t127 => (some (t127 == 65535))
theorem csum_Right.mono : ∀ a0 k, LeO (csum_Right.f k a0) (csum_Right.f (k + 1) a0) := by
 intro a0 k
 unfold csum_Right.f
 repeat' first
   | (with_reducible exact csum_total.mono _ _)
   | (with_reducible exact LeO.refl _)
   | (with_reducible exact LeO.none _)
   | (with_reducible refine LeO.ite ?_ ?_)
   | (with_reducible refine LeO.bind ?_ (fun _ => ?_))
   | exact csum_total.mono _ _
   | exact LeO.none _
   | refine LeO.ite ?_ ?_
   | refine LeO.bind ?_ (fun _ => ?_)
set_option maxHeartbeats 8000000 in
set_option maxRecDepth 100000 in
theorem csum_Right.calls (k : Nat) (A0 : Option Addr) (c0 : Nat) (l0 : List ByteArray) (r : Bool) (w : World) (hr0 : Kd.C Kd.string w A0 l0.length l0) (hc0 : l0.length ≤ c0) (h : csum_Right.f k l0 = some r) :
  Calls Tryd.prog 80 #[.slice A0 l0.length c0] w fun e w' => e = .returned (.bool r) ∧ Below w.heap.size w w' := by
 have HR0 := Aside0.mk hr0
 have HC0 := Aside0.mk hc0
 clear hr0 hc0
 have HB := Aside0.mk (Below.refl w.heap.size w)
 have H : ((csum_total.f k l0).bind fun t127 => (some (t127 == 65535))) = some r := h
 clear h
 replace H := Option.bind_eq_some_iff.mp H
 obtain ⟨t127, A20, H⟩ := H
 try dsimp only at H
 have A2 := Aside0.mk A20
 clear A20
 obtain rfl := Option.some.inj H
 go_enter Tryd.func80, Tryd.ntmps80
 go_wp2_with (first | ((with_reducible refine gate_callee (f := 70) rfl ?_); refine goesL_ (some 4) rfl rfl Tryd.func70 qg3m rfl #[.slice A0 l0.length c0] rfl qraq ?_; (with_reducible refine (csum_total.calls k _ _ l0 t127 _ ?side1 ?side2 A2.out).mono ?_); (case side1 => repeat (first | exact HR0.out | (with_reducible refine Kd.C_alloc ?_ _) | (with_reducible refine Kd.C_drewN ?_ _) | (with_reducible refine Kd.C_drew ?_))); (case side2 => exact HC0.out); rintro e w3 ⟨rfl, hb⟩; refine ⟨_, rfl, ?_⟩; replace HB := Aside0.mk (below_step qpag hb); (try clear hb); (try clear hb2); (try clear hk); (try clear hi)))
 go_ret
 exact ⟨qxu5, qpag⟩

end Go.Proofs.YtbkgaplldfilnaaDoor.P
namespace Go.Proofs.YtbkgaplldfilnaaDoor.P
open Go.RowKit Go.Proofs.YtbkgaplldfilnaaDoorW.PrintWords Go.Proofs.YtbkgaplldfilnaaDoorW.PrintLast Go.Proofs.YtbkgaplldfilnaaDoorW.PrintMore
attribute [local go_sem] max2_int min2_int max_two min_two max_three min_three max_four min_four   -- for this text's walks alone
set_option linter.unusedVariables false
set_option linter.unusedSimpArgs false

/-! ### inet_flags: function 49 -/
def inet_flags.f (a0_0 : Int) (a0_1 : Int) (a0_2 : Bool) (a0_3 : Bool) (a0_4 : Int) (a0_5 : Int) (a0_6 : Int) (a0_7 : Int) (a0_8 : Int) (a0_9 : ByteArray) : Option (Int) := if a0_2 = true then (if a0_3 = true then (some (Go.bits .or .i64 (Go.bits .or .i64 a0_4 16384) 8192)) else (some (Go.bits .or .i64 a0_4 16384))) else (if a0_3 = true then (some (Go.bits .or .i64 a0_4 8192)) else (some a0_4))
set_option maxHeartbeats 8000000 in
set_option maxRecDepth 100000 in
theorem inet_flags.calls (a0_0 : Int) (a0_1 : Int) (a0_2 : Bool) (a0_3 : Bool) (a0_4 : Int) (a0_5 : Int) (a0_6 : Int) (a0_7 : Int) (a0_8 : Int) (a0_9 : ByteArray) (r : Int) (w : World) (h : inet_flags.f a0_0 a0_1 a0_2 a0_3 a0_4 a0_5 a0_6 a0_7 a0_8 a0_9 = some r) :
  Calls Tryd.prog 49 #[.agg #[.int .i64 a0_0, .int .i64 a0_1, .bool a0_2, .bool a0_3, .int .i64 a0_4, .int .i64 a0_5, .int .i64 a0_6, .int .u32 a0_7, .int .u32 a0_8, .string a0_9]] w fun e w' => e = .returned (.int .i64 r) ∧ Below w.heap.size w w' := by
 have hu64 := Tryd.underlying64
 have HB := Aside0.mk (Below.refl w.heap.size w)
 have H : (if a0_2 = true then (if a0_3 = true then (some (Go.bits .or .i64 (Go.bits .or .i64 a0_4 16384) 8192)) else (some (Go.bits .or .i64 a0_4 16384))) else (if a0_3 = true then (some (Go.bits .or .i64 a0_4 8192)) else (some a0_4))) = some r := h
 clear h
 by_cases c2 : a0_2 = true
 ·subst c2
  rw [if_pos rfl] at H
  by_cases c3 : a0_3 = true
  ·subst c3
   rw [if_pos rfl] at H
   obtain rfl := Option.some.inj H
   go_enter Tryd.func49, Tryd.ntmps49
   go_wp2_with (first | ((with_reducible refine gate_st (ty := 64) rfl ?_); refine storeC10 rfl rfl rfl rfl rfl qe1t qr2c qg3m rfl ?_) | ((with_reducible refine gate_ld (ty := 64) rfl ?_); (try (with_reducible refine gate_gd rfl ?_; refine gate_guard q8ju ?_; dsimp only)); refine load_st rfl rfl rfl qe1t qr2c Tryd.underlying64 rfl qg3m ?_; (try simp only [Act.put, List.setIfInBounds_toArray, List.set_cons_zero, List.set_cons_succ])) | ((with_reducible refine gate_dst (N := 1) rfl ?_); refine box_event qgcr (N := 1) qgcr (cs := #[.int .i64 a0_0, .int .i64 a0_1, .bool true, .bool true, .int .i64 a0_4, .int .i64 a0_5, .int .i64 a0_6, .int .u32 a0_7, .int .u32 a0_8, .string a0_9]) (t := 64) qlto ?_; intro gb451 hg w4 hbox hb; have BK451 := Aside0.mk (hbox); have GE451 := Aside0.mk ((qisx : w.heap.size ≤ gb451)); replace HB := Aside0.mk (below_step qpag hb); clear hb hbox hg; obtain ⟨hcz5_0, hcz5_1, hcz5_2, hcz5_3, hcz5_4, hcz5_5, hcz5_6, hcz5_7, hcz5_8, hcz5_9⟩ := cells10 BK451.out; obtain ⟨hfz5_0, hfz5_1, hfz5_2, hfz5_3, hfz5_4, hfz5_5, hfz5_6, hfz5_7, hfz5_8, hfz5_9⟩ := frozen10 BK451.out))
   go_ret
   exact ⟨qxu5, q1vr⟩
  ·replace c3 := Bool.eq_false_iff.mpr c3
   subst c3
   rw [if_neg (show ¬ (false = true) by decide)] at H
   obtain rfl := Option.some.inj H
   go_enter Tryd.func49, Tryd.ntmps49
   go_wp2_with (first | ((with_reducible refine gate_st (ty := 64) rfl ?_); refine storeC10 rfl rfl rfl rfl rfl qe1t qr2c qg3m rfl ?_) | ((with_reducible refine gate_ld (ty := 64) rfl ?_); (try (with_reducible refine gate_gd rfl ?_; refine gate_guard q8ju ?_; dsimp only)); refine load_st rfl rfl rfl qe1t qr2c Tryd.underlying64 rfl qg3m ?_; (try simp only [Act.put, List.setIfInBounds_toArray, List.set_cons_zero, List.set_cons_succ])) | ((with_reducible refine gate_dst (N := 1) rfl ?_); refine box_event qgcr (N := 1) qgcr (cs := #[.int .i64 a0_0, .int .i64 a0_1, .bool true, .bool false, .int .i64 a0_4, .int .i64 a0_5, .int .i64 a0_6, .int .u32 a0_7, .int .u32 a0_8, .string a0_9]) (t := 64) qlto ?_; intro gb451 hg w6 hbox hb; have BK451 := Aside0.mk (hbox); have GE451 := Aside0.mk ((qisx : w.heap.size ≤ gb451)); replace HB := Aside0.mk (below_step qpag hb); clear hb hbox hg; obtain ⟨hcz7_0, hcz7_1, hcz7_2, hcz7_3, hcz7_4, hcz7_5, hcz7_6, hcz7_7, hcz7_8, hcz7_9⟩ := cells10 BK451.out; obtain ⟨hfz7_0, hfz7_1, hfz7_2, hfz7_3, hfz7_4, hfz7_5, hfz7_6, hfz7_7, hfz7_8, hfz7_9⟩ := frozen10 BK451.out))
   go_ret
   exact ⟨qxu5, q1vr⟩
 ·replace c2 := Bool.eq_false_iff.mpr c2
  subst c2
  rw [if_neg (show ¬ (false = true) by decide)] at H
  by_cases c8 : a0_3 = true
  ·subst c8
   rw [if_pos rfl] at H
   obtain rfl := Option.some.inj H
   go_enter Tryd.func49, Tryd.ntmps49
   go_wp2_with (first | ((with_reducible refine gate_st (ty := 64) rfl ?_); refine storeC10 rfl rfl rfl rfl rfl qe1t qr2c qg3m rfl ?_) | ((with_reducible refine gate_ld (ty := 64) rfl ?_); (try (with_reducible refine gate_gd rfl ?_; refine gate_guard q8ju ?_; dsimp only)); refine load_st rfl rfl rfl qe1t qr2c Tryd.underlying64 rfl qg3m ?_; (try simp only [Act.put, List.setIfInBounds_toArray, List.set_cons_zero, List.set_cons_succ])) | ((with_reducible refine gate_dst (N := 1) rfl ?_); refine box_event qgcr (N := 1) qgcr (cs := #[.int .i64 a0_0, .int .i64 a0_1, .bool false, .bool true, .int .i64 a0_4, .int .i64 a0_5, .int .i64 a0_6, .int .u32 a0_7, .int .u32 a0_8, .string a0_9]) (t := 64) qlto ?_; intro gb451 hg w9 hbox hb; have BK451 := Aside0.mk (hbox); have GE451 := Aside0.mk ((qisx : w.heap.size ≤ gb451)); replace HB := Aside0.mk (below_step qpag hb); clear hb hbox hg; obtain ⟨hcz10_0, hcz10_1, hcz10_2, hcz10_3, hcz10_4, hcz10_5, hcz10_6, hcz10_7, hcz10_8, hcz10_9⟩ := cells10 BK451.out; obtain ⟨hfz10_0, hfz10_1, hfz10_2, hfz10_3, hfz10_4, hfz10_5, hfz10_6, hfz10_7, hfz10_8, hfz10_9⟩ := frozen10 BK451.out))
   go_ret
   exact ⟨qxu5, q1vr⟩
  ·replace c8 := Bool.eq_false_iff.mpr c8
   subst c8
   rw [if_neg (show ¬ (false = true) by decide)] at H
   obtain rfl := Option.some.inj H
   go_enter Tryd.func49, Tryd.ntmps49
   go_wp2_with (first | ((with_reducible refine gate_st (ty := 64) rfl ?_); refine storeC10 rfl rfl rfl rfl rfl qe1t qr2c qg3m rfl ?_) | ((with_reducible refine gate_ld (ty := 64) rfl ?_); (try (with_reducible refine gate_gd rfl ?_; refine gate_guard q8ju ?_; dsimp only)); refine load_st rfl rfl rfl qe1t qr2c Tryd.underlying64 rfl qg3m ?_; (try simp only [Act.put, List.setIfInBounds_toArray, List.set_cons_zero, List.set_cons_succ])) | ((with_reducible refine gate_dst (N := 1) rfl ?_); refine box_event qgcr (N := 1) qgcr (cs := #[.int .i64 a0_0, .int .i64 a0_1, .bool false, .bool false, .int .i64 a0_4, .int .i64 a0_5, .int .i64 a0_6, .int .u32 a0_7, .int .u32 a0_8, .string a0_9]) (t := 64) qlto ?_; intro gb451 hg w11 hbox hb; have BK451 := Aside0.mk (hbox); have GE451 := Aside0.mk ((qisx : w.heap.size ≤ gb451)); replace HB := Aside0.mk (below_step qpag hb); clear hb hbox hg; obtain ⟨hcz12_0, hcz12_1, hcz12_2, hcz12_3, hcz12_4, hcz12_5, hcz12_6, hcz12_7, hcz12_8, hcz12_9⟩ := cells10 BK451.out; obtain ⟨hfz12_0, hfz12_1, hfz12_2, hfz12_3, hfz12_4, hfz12_5, hfz12_6, hfz12_7, hfz12_8, hfz12_9⟩ := frozen10 BK451.out))
   go_ret
   exact ⟨qxu5, q1vr⟩

end Go.Proofs.YtbkgaplldfilnaaDoor.P
namespace Go.Proofs.YtbkgaplldfilnaaDoor.P
open Go.RowKit Go.Proofs.YtbkgaplldfilnaaDoorW.PrintWords Go.Proofs.YtbkgaplldfilnaaDoorW.PrintLast Go.Proofs.YtbkgaplldfilnaaDoorW.PrintMore
attribute [local go_sem] max2_int min2_int max_two min_two max_three min_three max_four min_four   -- for this text's walks alone
set_option linter.unusedVariables false
set_option linter.unusedSimpArgs false

/-! ### csum_Head: function 45 -/
def csum_Head.f (k : Nat) (a0 : Int) (a1 : Int) (a2 : Int) (a3 : Int) : Option (ByteArray) := (octets_Put.f k (IntKind.u64.wrap (a0)) 4).bind fun bt178 => ((octets_Put.f k (IntKind.u64.wrap (a1)) 4).bind fun bt180 => ((octets_Put.f k (IntKind.u64.wrap (Go.bits .and .i64 a3 65535)) 2).bind fun bt182 => (if bt178.1.size + bt180.1.size ≤ 9223372036854775807 then ((some (([0, (a2) % 256] : List Int) : List Int)).bind fun y184 => (if (bt178.1 ++ bt180.1).size + (strOfNums y184).size ≤ 9223372036854775807 then (if ((bt178.1 ++ bt180.1) ++ (strOfNums y184)).size + bt182.1.size ≤ 9223372036854775807 then (some (((bt178.1 ++ bt180.1) ++ (strOfNums y184)) ++ bt182.1)) else (none)) else (none))) else (none))))
theorem csum_Head.mono : ∀ a0 a1 a2 a3 k, LeO (csum_Head.f k a0 a1 a2 a3) (csum_Head.f (k + 1) a0 a1 a2 a3) := by
 intro a0 a1 a2 a3 k
 unfold csum_Head.f
 repeat' first
   | (with_reducible exact octets_Put.mono _ _ _)
   | (with_reducible exact LeO.refl _)
   | (with_reducible exact LeO.none _)
   | (with_reducible refine LeO.ite ?_ ?_)
   | (with_reducible refine LeO.bind ?_ (fun _ => ?_))
   | exact octets_Put.mono _ _ _
   | exact LeO.none _
   | refine LeO.ite ?_ ?_
   | refine LeO.bind ?_ (fun _ => ?_)
set_option maxHeartbeats 8000000 in
set_option maxRecDepth 100000 in
theorem csum_Head.calls (k : Nat) (a0 : Int) (a1 : Int) (a2 : Int) (a3 : Int) (r : ByteArray) (w : World) (h : csum_Head.f k a0 a1 a2 a3 = some r) :
  Calls Tryd.prog 45 #[.int .u32 a0, .int .u32 a1, .int .i64 a2, .int .i64 a3] w fun e w' => e = .returned (.string r) ∧ Below w.heap.size w w' := by
 have HB := Aside0.mk (Below.refl w.heap.size w)
 have H : ((octets_Put.f k (IntKind.u64.wrap (a0)) 4).bind fun bt178 => ((octets_Put.f k (IntKind.u64.wrap (a1)) 4).bind fun bt180 => ((octets_Put.f k (IntKind.u64.wrap (Go.bits .and .i64 a3 65535)) 2).bind fun bt182 => (if bt178.1.size + bt180.1.size ≤ 9223372036854775807 then ((some (([0, (a2) % 256] : List Int) : List Int)).bind fun y184 => (if (bt178.1 ++ bt180.1).size + (strOfNums y184).size ≤ 9223372036854775807 then (if ((bt178.1 ++ bt180.1) ++ (strOfNums y184)).size + bt182.1.size ≤ 9223372036854775807 then (some (((bt178.1 ++ bt180.1) ++ (strOfNums y184)) ++ bt182.1)) else (none)) else (none))) else (none))))) = some r := h
 clear h
 replace H := Option.bind_eq_some_iff.mp H
 obtain ⟨⟨t178, t179⟩, A50, H⟩ := H
 try dsimp only at H
 have A5 := Aside0.mk A50
 clear A50
 replace H := Option.bind_eq_some_iff.mp H
 obtain ⟨⟨t180, t181⟩, A60, H⟩ := H
 try dsimp only at H
 have A6 := Aside0.mk A60
 clear A60
 replace H := Option.bind_eq_some_iff.mp H
 obtain ⟨⟨t182, t183⟩, A70, H⟩ := H
 try dsimp only at H
 have A7 := Aside0.mk A70
 clear A70
 by_cases c8 : t178.size + t180.size ≤ 9223372036854775807
 ·rw [if_pos c8] at H
  have c8b0 := eq_true c8
  have c8b1 : decide (t178.size + t180.size ≤ 9223372036854775807) = true := decide_eq_true c8
  try have c8b2 : (9223372036854775807 < t178.size + t180.size) = False := eq_false (Nat.not_lt.2 c8)
  obtain ⟨y184, hy184⟩ : ∃ y_ : List Int, y_ = (([0, (a2) % 256] : List Int)) := ⟨_, rfl⟩
  replace H : (if (t178 ++ t180).size + (strOfNums y184).size ≤ 9223372036854775807 then (if ((t178 ++ t180) ++ (strOfNums y184)).size + t182.size ≤ 9223372036854775807 then (some (((t178 ++ t180) ++ (strOfNums y184)) ++ t182)) else (none)) else (none)) = some r := by first | (rw [hy184]; with_reducible exact H) | (have H2_ := (Option.bind_some _ _).symm.trans H; rw [hy184]; with_reducible exact H2_) | (have H2_ := (Option.bind_some _ _).symm.trans H; with_reducible exact H2_) | with_reducible exact H | (rw [hy184]; exact H) | exact H
  have Ny184 := Aside0.mk hy184
  clear hy184
  by_cases c9 : (t178 ++ t180).size + (strOfNums y184).size ≤ 9223372036854775807
  ·rw [if_pos c9] at H
   have c9b0 := eq_true c9
   have c9b1 : decide ((t178 ++ t180).size + (strOfNums y184).size ≤ 9223372036854775807) = true := decide_eq_true c9
   have c9z := c9
   simp only [ByteArray.size_append] at c9z
   have c9z1 := eq_true c9z
   have c9z2 := eq_false (Nat.not_lt.2 c9z)
   try have c9b2 : (9223372036854775807 < (t178 ++ t180).size + (strOfNums y184).size) = False := eq_false (Nat.not_lt.2 c9)
   by_cases c10 : ((t178 ++ t180) ++ (strOfNums y184)).size + t182.size ≤ 9223372036854775807
   ·rw [if_pos c10] at H
    have c10b0 := eq_true c10
    have c10b1 : decide (((t178 ++ t180) ++ (strOfNums y184)).size + t182.size ≤ 9223372036854775807) = true := decide_eq_true c10
    have c10z := c10
    simp only [ByteArray.size_append] at c10z
    have c10z1 := eq_true c10z
    have c10z2 := eq_false (Nat.not_lt.2 c10z)
    try have c10b2 : (9223372036854775807 < ((t178 ++ t180) ++ (strOfNums y184)).size + t182.size) = False := eq_false (Nat.not_lt.2 c10)
    obtain rfl := Option.some.inj H
    go_enter Tryd.func45, Tryd.ntmps45
    go_wp2_with (first | ((with_reducible refine gate_callee (f := 47) rfl ?_); refine goesL_ (some 18) rfl rfl Tryd.func47 qg3m rfl #[.int .u64 (IntKind.u64.wrap (a0)), .int .i64 4] rfl qraq ?_; (with_reducible refine (octets_Put.calls k (IntKind.u64.wrap (a0)) 4 t178 t179 _ A5.out).mono ?_); rintro e w11 ⟨rfl, hb⟩; refine ⟨_, rfl, ?_⟩; replace HB := Aside0.mk (below_step qpag hb); (try clear hb); (try clear hb2); (try clear hk); (try clear hi)) | ((with_reducible refine gate_callee (f := 47) rfl ?_); refine goesL_ (some 24) rfl rfl Tryd.func47 qg3m rfl #[.int .u64 (IntKind.u64.wrap (a1)), .int .i64 4] rfl qraq ?_; (with_reducible refine (octets_Put.calls k (IntKind.u64.wrap (a1)) 4 t180 t181 _ A6.out).mono ?_); rintro e w12 ⟨rfl, hb⟩; refine ⟨_, rfl, ?_⟩; replace HB := Aside0.mk (below_step qpag hb); (try clear hb); (try clear hb2); (try clear hk); (try clear hi)) | ((with_reducible refine gate_callee (f := 47) rfl ?_); refine goesL_ (some 31) rfl rfl Tryd.func47 qg3m rfl #[.int .u64 (IntKind.u64.wrap (Go.bits .and .i64 a3 65535)), .int .i64 2] rfl qraq ?_; (with_reducible refine (octets_Put.calls k (IntKind.u64.wrap (Go.bits .and .i64 a3 65535)) 2 t182 t183 _ A7.out).mono ?_); rintro e w13 ⟨rfl, hb⟩; refine ⟨_, rfl, ?_⟩; replace HB := Aside0.mk (below_step qpag hb); (try clear hb); (try clear hb2); (try clear hk); (try clear hi)) | ((with_reducible refine gate_dst (N := 39) rfl ?_); refine Kd.R_lit (Kd.int .u8) _ 5 ?hg (N := 39) ?hd (xs := ([0, (a2) % 256] : List Int)) (inner := [.int .u8 0, .int .u8 ((a2) % 256)]) (ok := fun _ => True) (okp := fun _ => True) ?hr ?hp (fun _ hk => hk) trivial (Below.refl _ _) (Nat.le_refl _) q6hr ?_; (case hd => rfl); (case hg => rfl); (case hr => first | (go_simp; done) | (go_simp; rfl)); (case hp => exact (Reps.one (show Kd.M (Kd.int .u8) _ _ _ 0 [.int .u8 0] from rfl) (Reps.one (show Kd.M (Kd.int .u8) _ _ _ ((a2) % 256) [.int .u8 ((a2) % 256)] from rfl) (Reps.none _ _)))); intro v185 w14 ho15 hb hg_ hnew_; clear hg_ hnew_; (first | rw [← Ny184.out] at ho15 | (simp only [Int.reduceToNat] at ho15; rw [← Ny184.out] at ho15)); have HO186 := Aside0.mk (Kd.R_lower ho15 (below_size qpag)); replace HB := Aside0.mk (below_step qpag hb); clear hb ho15; have hcv16 := own_string (P := Tryd.prog) Tryd.underlying48 Tryd.underlying5 Tryd.underlying9 (Kd.own_of_R HO186.out)))
    go_ret
    exact ⟨qxu5, qpag⟩
   ·rw [if_neg c10] at H
    exact absurd H q6hr
  ·rw [if_neg c9] at H
   exact absurd H q6hr
 ·rw [if_neg c8] at H
  exact absurd H q6hr

end Go.Proofs.YtbkgaplldfilnaaDoor.P
namespace Go.Proofs.YtbkgaplldfilnaaDoor.P
open Go.RowKit Go.Proofs.YtbkgaplldfilnaaDoorW.PrintWords Go.Proofs.YtbkgaplldfilnaaDoorW.PrintLast Go.Proofs.YtbkgaplldfilnaaDoorW.PrintMore
attribute [local go_sem] max2_int min2_int max_two min_two max_three min_three max_four min_four   -- for this text's walks alone
set_option linter.unusedVariables false
set_option linter.unusedSimpArgs false

/-! ### udp_wrong: function 77 -/
def udp_wrong.f (k : Nat) (a0 : Int) (a1 : Int) (a2 : ByteArray) : Option (Int × Int) := if (a2.size : Int) < 8 then (some (0, 0)) else ((octets_Get.f k a2 4 2).bind fun bt187 => ((octets_Get.f k a2 6 2).bind fun bt189 => (if (wrap64 (bt187.1)) < 8 then (some (1, 0)) else (if (wrap64 (bt187.1)) > (a2.size : Int) then (some (2, 0)) else (if bt189.1 = 0 then (some (4, wrap64 (bt187.1))) else ((csum_Head.f k a0 a1 17 (wrap64 (bt187.1))).bind fun t191 => (if 0 ≤ (wrap64 (bt187.1)) then (if (wrap64 (bt187.1)) ≤ (a2.size : Int) then ((csum_Right.f k (([t191, a2.extract 0 ((wrap64 (bt187.1)) : Int).toNat] : List ByteArray))).bind fun t195 => (if t195 = true then (some (4, wrap64 (bt187.1))) else (some (3, 0)))) else (none)) else (none))))))))
theorem udp_wrong.mono : ∀ a0 a1 a2 k, LeO (udp_wrong.f k a0 a1 a2) (udp_wrong.f (k + 1) a0 a1 a2) := by
 intro a0 a1 a2 k
 unfold udp_wrong.f
 repeat' first
   | (with_reducible exact csum_Head.mono _ _ _ _ _)
   | (with_reducible exact csum_Right.mono _ _)
   | (with_reducible exact octets_Get.mono _ _ _ _)
   | (with_reducible exact LeO.refl _)
   | (with_reducible exact LeO.none _)
   | (with_reducible refine LeO.ite ?_ ?_)
   | (with_reducible refine LeO.bind ?_ (fun _ => ?_))
   | exact csum_Head.mono _ _ _ _ _
   | exact csum_Right.mono _ _
   | exact octets_Get.mono _ _ _ _
   | exact LeO.none _
   | refine LeO.ite ?_ ?_
   | refine LeO.bind ?_ (fun _ => ?_)
def udp_wrong.T10 : Bool × List (List Nat × List Nat) := (true, [([], []), ([0], [0]), ([1], [1]), ([2], [2]), ([2], [2]), ([2], [2]), ([3, 4, 5, 2, 2], [2, 3, 4, 5]), ([2], [2]), ([2], [2]), ([7, 8, 2], [2, 7, 8]), ([6, 9, 2], [2, 6, 9]), ([10, 6, 2], [2, 10]), ([11, 2], [2, 11]), ([2, 12], [2, 12]), ([13, 11], [13])])
def udp_wrong.B10 : List Nat := [0, 1, 3, 7, 7, 7, 63, 7, 7, 391, 1023, 2047, 4095, 8191, 16383]
theorem udp_wrong.tab10 : rtab .any (opsOf Tryd.f77 10) = udp_wrong.T10 := by kernel_rfl
theorem udp_wrong.bits10 : waitsOk udp_wrong.T10.2 udp_wrong.B10 = true := by kernel_rfl
theorem z17_0 {p : Prop} (h : p := by
 intro w'
 go_simp
 first | with_reducible rfl | (rw [if_neg qf0v]; try with_reducible rfl)) : p := h
theorem z17_1 {p : Prop} (h : p := by
 simp only [Act.put, List.setIfInBounds_toArray, List.set_cons_zero, List.set_cons_succ, i64_w, i32_w]
 rfl) : p := h
theorem z17_2 {p : Prop} (h : p := by
 simp only [Option.some.injEq, Prod.mk.injEq] at H
 obtain ⟨rfl, rfl⟩ := H
 go_enter Tryd.func77, Tryd.ntmps77
 go_wp2_with (first | ((with_reducible refine gate_callee (f := 56) rfl ?_); refine goesL_ (some 18) rfl rfl Tryd.func56 qg3m rfl #[.string a2, .int .i64 4, .int .i64 2] rfl qraq ?_; (with_reducible refine (octets_Get.calls k a2 4 2 t187 t188 _ A5.out).mono ?_); rintro e wz0 ⟨rfl, hb⟩; refine ⟨_, rfl, ?_⟩; replace HB := Aside0.mk (below_step qpag hb); (try clear hb); (try clear hb2); (try clear hk); (try clear hi)) | ((with_reducible refine gate_callee (f := 56) rfl ?_); refine goesL_ (some 23) rfl rfl Tryd.func56 qg3m rfl #[.string a2, .int .i64 6, .int .i64 2] rfl qraq ?_; (with_reducible refine (octets_Get.calls k a2 6 2 t189 t190 _ A6.out).mono ?_); rintro e wz1 ⟨rfl, hb⟩; refine ⟨_, rfl, ?_⟩; replace HB := Aside0.mk (below_step qpag hb); (try clear hb); (try clear hb2); (try clear hk); (try clear hi)))
 go_ret2
 exact ⟨qxu5, qpag⟩) : p := h
theorem z17_3 {p : Prop} (h : p := by
 show Act.put _ (some 43) _ = _
 simp only [Act.put, List.setIfInBounds_toArray, List.set_cons_zero, List.set_cons_succ, i64_w, i32_w]
 rfl) : p := h
theorem z17_4 {p : Prop} (h : p := by
 show Act.put _ (some 47) _ = _
 simp only [Act.put, List.setIfInBounds_toArray, List.set_cons_zero, List.set_cons_succ, i64_w, i32_w]
 rfl) : p := h
theorem z17_5 {p : Prop} (h : p := by
 show Act.put _ (some 48) _ = _
 simp only [Act.put, List.setIfInBounds_toArray, List.set_cons_zero, List.set_cons_succ, i64_w, i32_w]
 rfl) : p := h
set_option maxHeartbeats 8000000 in
set_option maxRecDepth 100000 in
theorem udp_wrong.calls (k : Nat) (a0 : Int) (a1 : Int) (a2 : ByteArray) (r1 : Int) (r2 : Int) (w : World) (h : udp_wrong.f k a0 a1 a2 = some (r1, r2)) :
  Calls Tryd.prog 77 #[.int .u32 a0, .int .u32 a1, .string a2] w fun e w' => e = .returned (.tuple #[.int .i64 r1, .int .i64 r2]) ∧ Below w.heap.size w w' := by
 have HB := Aside0.mk (Below.refl w.heap.size w)
 have H : (if (a2.size : Int) < 8 then (some (0, 0)) else ((octets_Get.f k a2 4 2).bind fun bt187 => ((octets_Get.f k a2 6 2).bind fun bt189 => (if (wrap64 (bt187.1)) < 8 then (some (1, 0)) else (if (wrap64 (bt187.1)) > (a2.size : Int) then (some (2, 0)) else (if bt189.1 = 0 then (some (4, wrap64 (bt187.1))) else ((csum_Head.f k a0 a1 17 (wrap64 (bt187.1))).bind fun t191 => (if 0 ≤ (wrap64 (bt187.1)) then (if (wrap64 (bt187.1)) ≤ (a2.size : Int) then ((csum_Right.f k (([t191, a2.extract 0 ((wrap64 (bt187.1)) : Int).toNat] : List ByteArray))).bind fun t195 => (if t195 = true then (some (4, wrap64 (bt187.1))) else (some (3, 0)))) else (none)) else (none))))))))) = some (r1, r2) := h
 clear h
 by_cases c4 : (a2.size : Int) < 8
 ·rw [if_pos c4] at H
  have c4b0 : decide ((a2.size : Int) < 8) = true := decide_eq_true c4
  have c4b1 : decide (a2.size < 8) = true := decide_eq_true q1jy
  clear c4
  simp only [Option.some.injEq, Prod.mk.injEq] at H
  obtain ⟨rfl, rfl⟩ := H
  go_enter Tryd.func77, Tryd.ntmps77
  go_wp2
  go_ret2
  exact ⟨qxu5, qpag⟩
 ·rw [if_neg c4] at H
  have c4b0 : decide ((a2.size : Int) < 8) = false := decide_eq_false c4
  have c4b1 : decide (a2.size < 8) = false := decide_eq_false q1jy
  clear c4
  replace H := Option.bind_eq_some_iff.mp H
  obtain ⟨⟨t187, t188⟩, A50, H⟩ := H
  try dsimp only at H
  have A5 := Aside0.mk A50
  clear A50
  replace H := Option.bind_eq_some_iff.mp H
  obtain ⟨⟨t189, t190⟩, A60, H⟩ := H
  try dsimp only at H
  have A6 := Aside0.mk A60
  clear A60
  by_cases c7 : (wrap64 (t187)) < 8
  ·rw [if_pos c7] at H
   have c7b0 : decide ((wrap64 (t187)) < 8) = true := decide_eq_true c7
   clear c7
   exact z17_2
  ·rw [if_neg c7] at H
   have c7b0 : decide ((wrap64 (t187)) < 8) = false := decide_eq_false c7
   clear c7
   by_cases c10 : (wrap64 (t187)) > (a2.size : Int)
   ·rw [if_pos c10] at H
    have c10b0 : decide ((a2.size : Int) < (wrap64 (t187))) = true := decide_eq_true c10
    clear c10
    exact z17_2
   ·rw [if_neg c10] at H
    have c10b0 : decide ((a2.size : Int) < (wrap64 (t187))) = false := decide_eq_false c10
    clear c10
    by_cases c13 : t189 = 0
    ·rw [if_pos c13] at H
     have c13b0 : (t189 == 0) = true := beq_iff_eq.mpr c13
     have c13b1 : (t189 != 0) = false := bne_eq_false_iff_eq.mpr c13
     clear c13
     simp only [Option.some.injEq, Prod.mk.injEq] at H
     obtain ⟨rfl, rfl⟩ := H
     go_enter Tryd.func77, Tryd.ntmps77
     try go_wp2_with (first | ((with_reducible refine gate_callee (f := 56) rfl ?_); refine goesL_ (some 18) rfl rfl Tryd.func56 qg3m rfl #[.string a2, .int .i64 4, .int .i64 2] rfl qraq ?_; (with_reducible refine (octets_Get.calls k a2 4 2 t187 t188 _ A5.out).mono ?_); rintro e w14 ⟨rfl, hb⟩; refine ⟨_, rfl, ?_⟩; replace HB := Aside0.mk (below_step qpag hb); (try clear hb); (try clear hb2); (try clear hk); (try clear hi)) | ((with_reducible refine gate_callee (f := 56) rfl ?_); refine goesL_ (some 23) rfl rfl Tryd.func56 qg3m rfl #[.string a2, .int .i64 6, .int .i64 2] rfl qraq ?_; (with_reducible refine (octets_Get.calls k a2 6 2 t189 t190 _ A6.out).mono ?_); rintro e w15 ⟨rfl, hb⟩; refine ⟨_, rfl, ?_⟩; replace HB := Aside0.mk (below_step qpag hb); (try clear hb); (try clear hb2); (try clear hk); (try clear hi)))
     replace HB := Aside0.mk (below_drew1 HB.out)
     refine start_ (n := 15) (S := fun w' => True) (ds := []) (ba 15 0) qg3m rfl rfl trivial (fun hHeld => ?_); refine with_tabW udp_wrong.tab10 udp_wrong.bits10 (fun HT_ HW_ => ?_)
     generalize w15.drew = w16 at HB hHeld ⊢
     refine pure_ (i := 0) (N := some 37) (v := ?_) (a' := ?_) (ba 15 1) rfl rfl (any_of HT_.out qg3m) (fun _ _ _ h => h) (Or.inl ⟨qgcr, ?_⟩) ?_ ?_
     rotate_left
     ·exact z17_0
     rotate_left
     ·exact z17_1
     refine pure_ (i := 1) (N := some 38) (v := ?_) (a' := ?_) (ba 15 3) rfl rfl (any_of HT_.out qg3m) (fun _ _ _ h => h) (Or.inl ⟨qgcr, ?_⟩) ?_ ?_
     rotate_left
     ·exact z17_0
     rotate_left
     ·exact z17_1
     refine pure_ (i := 2) (N := some 39) (v := ?_) (a' := ?_) (ba 15 7) rfl rfl (any_of HT_.out qg3m) (fun _ _ _ h => h) (Or.inl ⟨qgcr, ?_⟩) ?_ ?_
     rotate_left
     ·exact z17_0
     rotate_left
     ·exact z17_1
     refine pure_ (i := 3) (N := some 40) (v := undef) (a' := ?_) (ba 15 15) rfl rfl (any_of HT_.out qg3m) (fun _ _ _ h => h) (Or.inr ⟨quos, rfl⟩) ?_ ?_
     rotate_left
     ·exact z17_1
     refine pure_ (i := 4) (N := some 41) (v := undef) (a' := ?_) (ba 15 31) rfl rfl (any_of HT_.out qg3m) (fun _ _ _ h => h) (Or.inr ⟨quos, rfl⟩) ?_ ?_
     rotate_left
     ·exact z17_1
     refine pure_ (i := 5) (N := some 42) (v := undef) (a' := ?_) (ba 15 63) rfl rfl (any_of HT_.out qg3m) (fun _ _ _ h => h) (Or.inr ⟨quos, rfl⟩) ?_ ?_
     rotate_left
     ·exact z17_1
     refine pure_ (i := 6) (N := some 43) (v := undef) (a' := ?_) (ba 15 127) rfl rfl (any_of HT_.out qg3m) (fun _ _ _ h => h) (Or.inr ⟨quos, rfl⟩) ?_ ?_
     rotate_left
     ·exact z17_1
     refine pure_ (i := 7) (N := some 44) (v := undef) (a' := ?_) (ba 15 255) rfl rfl (any_of HT_.out qg3m) (fun _ _ _ h => h) (Or.inr ⟨quos, rfl⟩) ?_ ?_
     rotate_left
     ·exact z17_1
     refine pure_ (i := 8) (N := some 45) (v := undef) (a' := ?_) (ba 15 511) rfl rfl (any_of HT_.out qg3m) (fun _ _ _ h => h) (Or.inr ⟨quos, rfl⟩) ?_ ?_
     rotate_left
     ·exact z17_1
     refine pure_ (i := 9) (N := some 46) (v := undef) (a' := ?_) (ba 15 1023) rfl rfl (any_of HT_.out qg3m) (fun _ _ _ h => h) (Or.inr ⟨quos, rfl⟩) ?_ ?_
     rotate_left
     ·exact z17_1
     refine pure_ (i := 10) (N := some 47) (v := undef) (a' := ?_) (ba 15 2047) rfl rfl (any_of HT_.out qg3m) (fun _ _ _ h => h) (Or.inr ⟨quos, rfl⟩) ?_ ?_
     rotate_left
     ·exact z17_1
     refine pure_ (i := 11) (N := some 48) (v := undef) (a' := ?_) (ba 15 4095) rfl rfl (any_of HT_.out qg3m) (fun _ _ _ h => h) (Or.inr ⟨quos, rfl⟩) ?_ ?_
     rotate_left
     ·exact z17_1
     refine pure_ (i := 12) (N := some 49) (v := undef) (a' := ?_) (ba 15 8191) rfl rfl (any_of HT_.out qg3m) (fun _ _ _ h => h) (Or.inr ⟨quos, rfl⟩) ?_ ?_
     rotate_left
     ·exact z17_1
     refine pure_ (i := 13) (N := some 50) (v := ?_) (a' := ?_) (ba 15 16383) rfl rfl (any_of HT_.out qg3m) (fun _ _ _ h => h) (Or.inl ⟨qgcr, ?_⟩) ?_ ?_
     rotate_left
     ·exact z17_0
     rotate_left
     ·exact z17_1
     refine pure_ (i := 14) (N := some 36) (v := ?_) (a' := ?_) (ba 15 32767) rfl rfl (any_of HT_.out qg3m) (fun _ _ _ h => h) (Or.inl ⟨qgcr, ?_⟩) ?_ ?_
     rotate_left
     ·exact z17_0
     rotate_left
     ·exact z17_1
     refine done_ (done_of HT_.out qg3m) ?_
     try go_wp2
     go_ret2
     exact ⟨qxu5, qpag⟩
    ·rw [if_neg c13] at H
     have c13b0 : (t189 == 0) = false := beq_eq_false_iff_ne.mpr c13
     have c13b1 : (t189 != 0) = true := bne_iff_ne.mpr c13
     replace H := Option.bind_eq_some_iff.mp H
     obtain ⟨t191, A170, H⟩ := H
     try dsimp only at H
     have A17 := Aside0.mk A170
     clear A170
     obtain ⟨ji18, hji18⟩ : ∃ j_ : Int, (wrap64 (t187)) = j_ := ⟨_, rfl⟩
     replace H : (if 0 ≤ (ji18) then (if (ji18) ≤ (a2.size : Int) then ((csum_Right.f k (([t191, a2.extract 0 ((ji18) : Int).toNat] : List ByteArray))).bind fun t195 => (if t195 = true then (some (4, ji18)) else (some (3, 0)))) else (none)) else (none)) = some (r1, r2) := by first | (rw [hji18] at H; exact H) | (simp only [hji18] at H ⊢; exact H)
     (try rw [hji18] at c7b0)
     (try rw [hji18] at c10b0)
     (try rw [hji18] at A5)
     (try rw [hji18] at A6)
     (try rw [hji18] at A17)
     have hji18w : (IntKind.i64.wrap (t187)) = ji18 := (i64_w _).trans hji18
     by_cases c19 : 0 ≤ (ji18)
     ·rw [if_pos c19] at H
      have c19b0 := eq_true c19
      have c19b1 : decide (0 ≤ (ji18)) = true := decide_eq_true c19
      clear c19
      by_cases c20 : (ji18) ≤ (a2.size : Int)
      ·rw [if_pos c20] at H
       have c20b0 := eq_true c20
       have c20b1 : decide ((ji18) ≤ (a2.size : Int)) = true := decide_eq_true c20
       clear c20
       obtain ⟨y192, hy192⟩ : ∃ y_ : List ByteArray, y_ = (([t191, a2.extract 0 ((ji18) : Int).toNat] : List ByteArray)) := ⟨_, rfl⟩
       replace H : ((csum_Right.f k y192).bind fun t195 => (if t195 = true then (some (4, ji18)) else (some (3, 0)))) = some (r1, r2) := by first | (rw [hy192]; with_reducible exact H) | (have H2_ := (Option.bind_some _ _).symm.trans H; rw [hy192]; with_reducible exact H2_) | (have H2_ := (Option.bind_some _ _).symm.trans H; with_reducible exact H2_) | with_reducible exact H | (rw [hy192]; exact H) | exact H
       have Ny192 := Aside0.mk hy192
       clear hy192
       replace H := Option.bind_eq_some_iff.mp H
       obtain ⟨t195, A210, H⟩ := H
       try dsimp only at H
       have A21 := Aside0.mk A210
       clear A210
       by_cases c22 : t195 = true
       ·subst c22
        rw [if_pos rfl] at H
        simp only [Option.some.injEq, Prod.mk.injEq] at H
        obtain ⟨rfl, rfl⟩ := H
        go_enter Tryd.func77, Tryd.ntmps77
        try go_wp2_with (first | ((with_reducible refine gate_callee (f := 56) rfl ?_); refine goesL_ (some 18) rfl rfl Tryd.func56 qg3m rfl #[.string a2, .int .i64 4, .int .i64 2] rfl qraq ?_; (with_reducible refine (octets_Get.calls k a2 4 2 t187 t188 _ A5.out).mono ?_); rintro e w23 ⟨rfl, hb⟩; refine ⟨_, rfl, ?_⟩; replace HB := Aside0.mk (below_step qpag hb); (try clear hb); (try clear hb2); (try clear hk); (try clear hi)) | ((with_reducible refine gate_callee (f := 56) rfl ?_); refine goesL_ (some 23) rfl rfl Tryd.func56 qg3m rfl #[.string a2, .int .i64 6, .int .i64 2] rfl qraq ?_; (with_reducible refine (octets_Get.calls k a2 6 2 t189 t190 _ A6.out).mono ?_); rintro e w24 ⟨rfl, hb⟩; refine ⟨_, rfl, ?_⟩; replace HB := Aside0.mk (below_step qpag hb); (try clear hb); (try clear hb2); (try clear hk); (try clear hi)))
        replace HB := Aside0.mk (below_drew1 HB.out)
        refine start_ (n := 15) (S := fun w' => True) (ds := []) (ba 15 0) qg3m rfl rfl trivial (fun hHeld => ?_); refine with_tabW udp_wrong.tab10 udp_wrong.bits10 (fun HT_ HW_ => ?_)
        generalize w24.drew = w25 at HB hHeld ⊢
        refine pure_ (i := 0) (N := some 37) (v := ?_) (a' := ?_) (ba 15 1) rfl rfl (any_of HT_.out qg3m) (fun _ _ _ h => h) (Or.inl ⟨qgcr, ?_⟩) ?_ ?_
        rotate_left
        ·exact z17_0
        rotate_left
        ·exact z17_1
        refine pure_ (i := 1) (N := some 38) (v := ?_) (a' := ?_) (ba 15 3) rfl rfl (any_of HT_.out qg3m) (fun _ _ _ h => h) (Or.inl ⟨qgcr, ?_⟩) ?_ ?_
        rotate_left
        ·exact z17_0
        rotate_left
        ·exact z17_1
        refine pure_ (i := 2) (N := some 39) (v := ?_) (a' := ?_) (ba 15 7) rfl rfl (any_of HT_.out qg3m) (fun _ _ _ h => h) (Or.inl ⟨qgcr, ?_⟩) ?_ ?_
        rotate_left
        ·exact z17_0
        rotate_left
        ·exact z17_1
        refine pure_ (i := 3) (N := some 40) (v := ?_) (a' := ?_) (ba 15 15) rfl rfl (any_of HT_.out qg3m) (fun _ _ _ h => h) (Or.inl ⟨qgcr, ?_⟩) ?_ ?_
        rotate_left
        ·exact z17_0
        rotate_left
        ·exact z17_1
        refine pure_ (i := 4) (N := some 41) (v := ?_) (a' := ?_) (ba 15 31) rfl rfl (any_of HT_.out qg3m) (fun _ _ _ h => h) (Or.inl ⟨qgcr, ?_⟩) ?_ ?_
        rotate_left
        ·exact z17_0
        rotate_left
        ·exact z17_1
        refine pure_ (i := 5) (N := some 42) (v := ?_) (a' := ?_) (ba 15 63) rfl rfl (any_of HT_.out qg3m) (fun _ _ _ h => h) (Or.inl ⟨qgcr, ?_⟩) ?_ ?_
        rotate_left
        ·exact z17_0
        rotate_left
        ·exact z17_1
        refine pure_ (i := 7) (N := some 44) (v := ?_) (a' := ?_) (ba 15 191) rfl rfl (any_of HT_.out qg3m) (fun _ _ _ h => h) (Or.inl ⟨qgcr, ?_⟩) ?_ ?_
        rotate_left
        ·exact z17_0
        rotate_left
        ·exact z17_1
        refine pure_ (i := 8) (N := some 45) (v := ?_) (a' := ?_) (ba 15 447) rfl rfl (any_of HT_.out qg3m) (fun _ _ _ h => h) (Or.inl ⟨qgcr, ?_⟩) ?_ ?_
        rotate_left
        ·exact z17_0
        rotate_left
        ·exact z17_1
        refine pure_ (i := 9) (N := some 46) (v := ?_) (a' := ?_) (ba 15 959) rfl rfl (any_of HT_.out qg3m) (fun _ _ _ h => h) (Or.inl ⟨qgcr, ?_⟩) ?_ ?_
        rotate_left
        ·exact z17_0
        rotate_left
        ·exact z17_1
        refine one_ (i := 6) (N := some 43) (ba 15 1023) rfl rfl (one_of HT_.out qg3m) qomw (fun K hK => ?_)
        refine goes_ Tryd.func45 qg3m rfl #[.int .u32 a0, .int .u32 a1, .int .i64 17, .int .i64 ji18] qlo1 rfl rfl q6q9 ?_
        with_reducible refine (csum_Head.calls k a0 a1 17 ji18 t191 _ A17.out).mono ?_
        rintro e w26 ⟨rfl, hb⟩
        refine ⟨_, rfl, ?_⟩
        replace HB := Aside0.mk (below_step qpag hb)
        (try clear hb)
        (try clear hb2)
        (try clear hk)
        (try clear hi)
        refine hK.out _ _ trivial (fun hHeld => ?_)
        clear hK K
        refine norm_ (a' := ?_) ?_ ?_
        rotate_left
        ·exact z17_3
        refine one_ (i := 10) (N := some 47) (ba 15 2047) rfl rfl (one_of HT_.out qg3m) qomw (fun K hK => ?_)
        refine Kd.R_lit_step Kd.string _ 9 ?hg (N := 47) ?hd (xs := ([t191, a2.extract 0 ((ji18) : Int).toNat] : List ByteArray)) (inner := [.string t191, .string (a2.extract 0 ((ji18) : Int).toNat)]) (ok := fun _ => True) (okp := fun _ => True) ?hr ?hp (fun _ hk => hk) trivial (Below.refl _ _) (Nat.le_refl _) q6hr ?_; (case hd => rfl); (case hg => rfl); (case hr => first | (go_simp; done) | (go_simp; rfl)); (case hp => exact (Reps.one (show Kd.M Kd.string _ _ _ t191 [.string t191] from rfl) (Reps.one (show Kd.M Kd.string _ _ _ (a2.extract 0 ((ji18) : Int).toNat) [.string (a2.extract 0 ((ji18) : Int).toNat)] from rfl) (Reps.none _ _))))
        intro v193 w27 ho28 hb hg_ hnew_
        clear hg_ hnew_
        (first | rw [← Ny192.out] at ho28 | (simp only [Int.reduceToNat] at ho28; rw [← Ny192.out] at ho28))
        have HO194 := Aside0.mk (Kd.R_lower ho28 (below_size qpag))
        replace HB := Aside0.mk (below_step qpag hb)
        clear hb ho28
        obtain ⟨Ao29, co29, eo29⟩ := Kd.R_slice HO194.out
        (first | subst eo29 | (injection eo29 with f1_ f2_ f3_; have f4_ := f1_.symm; have f5_ := f3_.symm; clear f1_ f2_ f3_; subst f4_; subst f5_))
        refine hK.out _ _ trivial (fun hHeld => ?_)
        clear hK K
        refine norm_ (a' := ?_) ?_ ?_
        rotate_left
        ·exact z17_4
        refine one_ (i := 11) (N := some 48) (ba 15 4095) rfl rfl (one_of HT_.out qg3m) qomw (fun K hK => ?_)
        refine goes_ Tryd.func80 qg3m rfl #[.slice Ao29 y192.length co29] qlo1 rfl rfl qraq ?_
        with_reducible refine (csum_Right.calls k _ _ y192 true _ ?side1 ?side2 A21.out).mono ?_
        (case side1 => repeat (first | exact (Kd.R_reads' HO194.out).2.2 | (with_reducible refine Kd.C_alloc ?_ _) | (with_reducible refine Kd.C_drewN ?_ _) | (with_reducible refine Kd.C_drew ?_)))
        (case side2 => exact (Kd.R_reads' HO194.out).2.1)
        rintro e w30 ⟨rfl, hb⟩
        refine ⟨_, rfl, ?_⟩
        replace HO194 := Aside0.mk (Kd.R_below (by (with_reducible repeat (first | apply Kd.R_alloc | apply Kd.R_drewN | apply Kd.R_drew)); exact HO194.out) hb)
        replace HB := Aside0.mk (below_step qpag hb)
        (try clear hb)
        (try clear hb2)
        (try clear hk)
        (try clear hi)
        refine hK.out _ _ trivial (fun hHeld => ?_)
        clear hK K
        refine norm_ (a' := ?_) ?_ ?_
        rotate_left
        ·exact z17_5
        refine pure_ (i := 12) (N := some 49) (v := ?_) (a' := ?_) (ba 15 8191) rfl rfl (any_of HT_.out qg3m) (fun _ _ _ h => h) (Or.inl ⟨qgcr, ?_⟩) ?_ ?_
        rotate_left
        ·exact z17_0
        rotate_left
        ·exact z17_1
        refine pure_ (i := 13) (N := some 50) (v := ?_) (a' := ?_) (ba 15 16383) rfl rfl (any_of HT_.out qg3m) (fun _ _ _ h => h) (Or.inl ⟨qgcr, ?_⟩) ?_ ?_
        rotate_left
        ·exact z17_0
        rotate_left
        ·exact z17_1
        refine pure_ (i := 14) (N := some 36) (v := ?_) (a' := ?_) (ba 15 32767) rfl rfl (any_of HT_.out qg3m) (fun _ _ _ h => h) (Or.inl ⟨qgcr, ?_⟩) ?_ ?_
        rotate_left
        ·exact z17_0
        rotate_left
        ·exact z17_1
        refine done_ (done_of HT_.out qg3m) ?_
        try go_wp2
        go_ret2
        exact ⟨qgv2, qpag⟩
       ·replace c22 := Bool.eq_false_iff.mpr c22
        subst c22
        rw [if_neg (show ¬ (false = true) by decide)] at H
        simp only [Option.some.injEq, Prod.mk.injEq] at H
        obtain ⟨rfl, rfl⟩ := H
        go_enter Tryd.func77, Tryd.ntmps77
        try go_wp2_with (first | ((with_reducible refine gate_callee (f := 56) rfl ?_); refine goesL_ (some 18) rfl rfl Tryd.func56 qg3m rfl #[.string a2, .int .i64 4, .int .i64 2] rfl qraq ?_; (with_reducible refine (octets_Get.calls k a2 4 2 t187 t188 _ A5.out).mono ?_); rintro e w31 ⟨rfl, hb⟩; refine ⟨_, rfl, ?_⟩; replace HB := Aside0.mk (below_step qpag hb); (try clear hb); (try clear hb2); (try clear hk); (try clear hi)) | ((with_reducible refine gate_callee (f := 56) rfl ?_); refine goesL_ (some 23) rfl rfl Tryd.func56 qg3m rfl #[.string a2, .int .i64 6, .int .i64 2] rfl qraq ?_; (with_reducible refine (octets_Get.calls k a2 6 2 t189 t190 _ A6.out).mono ?_); rintro e w32 ⟨rfl, hb⟩; refine ⟨_, rfl, ?_⟩; replace HB := Aside0.mk (below_step qpag hb); (try clear hb); (try clear hb2); (try clear hk); (try clear hi)))
        replace HB := Aside0.mk (below_drew1 HB.out)
        refine start_ (n := 15) (S := fun w' => True) (ds := []) (ba 15 0) qg3m rfl rfl trivial (fun hHeld => ?_); refine with_tabW udp_wrong.tab10 udp_wrong.bits10 (fun HT_ HW_ => ?_)
        generalize w32.drew = w33 at HB hHeld ⊢
        refine pure_ (i := 0) (N := some 37) (v := ?_) (a' := ?_) (ba 15 1) rfl rfl (any_of HT_.out qg3m) (fun _ _ _ h => h) (Or.inl ⟨qgcr, ?_⟩) ?_ ?_
        rotate_left
        ·exact z17_0
        rotate_left
        ·exact z17_1
        refine pure_ (i := 1) (N := some 38) (v := ?_) (a' := ?_) (ba 15 3) rfl rfl (any_of HT_.out qg3m) (fun _ _ _ h => h) (Or.inl ⟨qgcr, ?_⟩) ?_ ?_
        rotate_left
        ·exact z17_0
        rotate_left
        ·exact z17_1
        refine pure_ (i := 2) (N := some 39) (v := ?_) (a' := ?_) (ba 15 7) rfl rfl (any_of HT_.out qg3m) (fun _ _ _ h => h) (Or.inl ⟨qgcr, ?_⟩) ?_ ?_
        rotate_left
        ·exact z17_0
        rotate_left
        ·exact z17_1
        refine pure_ (i := 3) (N := some 40) (v := ?_) (a' := ?_) (ba 15 15) rfl rfl (any_of HT_.out qg3m) (fun _ _ _ h => h) (Or.inl ⟨qgcr, ?_⟩) ?_ ?_
        rotate_left
        ·exact z17_0
        rotate_left
        ·exact z17_1
        refine pure_ (i := 4) (N := some 41) (v := ?_) (a' := ?_) (ba 15 31) rfl rfl (any_of HT_.out qg3m) (fun _ _ _ h => h) (Or.inl ⟨qgcr, ?_⟩) ?_ ?_
        rotate_left
        ·exact z17_0
        rotate_left
        ·exact z17_1
        refine pure_ (i := 5) (N := some 42) (v := ?_) (a' := ?_) (ba 15 63) rfl rfl (any_of HT_.out qg3m) (fun _ _ _ h => h) (Or.inl ⟨qgcr, ?_⟩) ?_ ?_
        rotate_left
        ·exact z17_0
        rotate_left
        ·exact z17_1
        refine pure_ (i := 7) (N := some 44) (v := ?_) (a' := ?_) (ba 15 191) rfl rfl (any_of HT_.out qg3m) (fun _ _ _ h => h) (Or.inl ⟨qgcr, ?_⟩) ?_ ?_
        rotate_left
        ·exact z17_0
        rotate_left
        ·exact z17_1
        refine pure_ (i := 8) (N := some 45) (v := ?_) (a' := ?_) (ba 15 447) rfl rfl (any_of HT_.out qg3m) (fun _ _ _ h => h) (Or.inl ⟨qgcr, ?_⟩) ?_ ?_
        rotate_left
        ·exact z17_0
        rotate_left
        ·exact z17_1
        refine pure_ (i := 9) (N := some 46) (v := ?_) (a' := ?_) (ba 15 959) rfl rfl (any_of HT_.out qg3m) (fun _ _ _ h => h) (Or.inl ⟨qgcr, ?_⟩) ?_ ?_
        rotate_left
        ·exact z17_0
        rotate_left
        ·exact z17_1
        refine one_ (i := 6) (N := some 43) (ba 15 1023) rfl rfl (one_of HT_.out qg3m) qomw (fun K hK => ?_)
        refine goes_ Tryd.func45 qg3m rfl #[.int .u32 a0, .int .u32 a1, .int .i64 17, .int .i64 ji18] qlo1 rfl rfl q6q9 ?_
        with_reducible refine (csum_Head.calls k a0 a1 17 ji18 t191 _ A17.out).mono ?_
        rintro e w34 ⟨rfl, hb⟩
        refine ⟨_, rfl, ?_⟩
        replace HB := Aside0.mk (below_step qpag hb)
        (try clear hb)
        (try clear hb2)
        (try clear hk)
        (try clear hi)
        refine hK.out _ _ trivial (fun hHeld => ?_)
        clear hK K
        refine norm_ (a' := ?_) ?_ ?_
        rotate_left
        ·exact z17_3
        refine one_ (i := 10) (N := some 47) (ba 15 2047) rfl rfl (one_of HT_.out qg3m) qomw (fun K hK => ?_)
        refine Kd.R_lit_step Kd.string _ 9 ?hg (N := 47) ?hd (xs := ([t191, a2.extract 0 ((ji18) : Int).toNat] : List ByteArray)) (inner := [.string t191, .string (a2.extract 0 ((ji18) : Int).toNat)]) (ok := fun _ => True) (okp := fun _ => True) ?hr ?hp (fun _ hk => hk) trivial (Below.refl _ _) (Nat.le_refl _) q6hr ?_; (case hd => rfl); (case hg => rfl); (case hr => first | (go_simp; done) | (go_simp; rfl)); (case hp => exact (Reps.one (show Kd.M Kd.string _ _ _ t191 [.string t191] from rfl) (Reps.one (show Kd.M Kd.string _ _ _ (a2.extract 0 ((ji18) : Int).toNat) [.string (a2.extract 0 ((ji18) : Int).toNat)] from rfl) (Reps.none _ _))))
        intro v193 w35 ho36 hb hg_ hnew_
        clear hg_ hnew_
        (first | rw [← Ny192.out] at ho36 | (simp only [Int.reduceToNat] at ho36; rw [← Ny192.out] at ho36))
        have HO194 := Aside0.mk (Kd.R_lower ho36 (below_size qpag))
        replace HB := Aside0.mk (below_step qpag hb)
        clear hb ho36
        obtain ⟨Ao37, co37, eo37⟩ := Kd.R_slice HO194.out
        (first | subst eo37 | (injection eo37 with f1_ f2_ f3_; have f4_ := f1_.symm; have f5_ := f3_.symm; clear f1_ f2_ f3_; subst f4_; subst f5_))
        refine hK.out _ _ trivial (fun hHeld => ?_)
        clear hK K
        refine norm_ (a' := ?_) ?_ ?_
        rotate_left
        ·exact z17_4
        refine one_ (i := 11) (N := some 48) (ba 15 4095) rfl rfl (one_of HT_.out qg3m) qomw (fun K hK => ?_)
        refine goes_ Tryd.func80 qg3m rfl #[.slice Ao37 y192.length co37] qlo1 rfl rfl qraq ?_
        with_reducible refine (csum_Right.calls k _ _ y192 false _ ?side1 ?side2 A21.out).mono ?_
        (case side1 => repeat (first | exact (Kd.R_reads' HO194.out).2.2 | (with_reducible refine Kd.C_alloc ?_ _) | (with_reducible refine Kd.C_drewN ?_ _) | (with_reducible refine Kd.C_drew ?_)))
        (case side2 => exact (Kd.R_reads' HO194.out).2.1)
        rintro e w38 ⟨rfl, hb⟩
        refine ⟨_, rfl, ?_⟩
        replace HO194 := Aside0.mk (Kd.R_below (by (with_reducible repeat (first | apply Kd.R_alloc | apply Kd.R_drewN | apply Kd.R_drew)); exact HO194.out) hb)
        replace HB := Aside0.mk (below_step qpag hb)
        (try clear hb)
        (try clear hb2)
        (try clear hk)
        (try clear hi)
        refine hK.out _ _ trivial (fun hHeld => ?_)
        clear hK K
        refine norm_ (a' := ?_) ?_ ?_
        rotate_left
        ·exact z17_5
        refine pure_ (i := 12) (N := some 49) (v := ?_) (a' := ?_) (ba 15 8191) rfl rfl (any_of HT_.out qg3m) (fun _ _ _ h => h) (Or.inl ⟨qgcr, ?_⟩) ?_ ?_
        rotate_left
        ·exact z17_0
        rotate_left
        ·exact z17_1
        refine pure_ (i := 13) (N := some 50) (v := ?_) (a' := ?_) (ba 15 16383) rfl rfl (any_of HT_.out qg3m) (fun _ _ _ h => h) (Or.inl ⟨qgcr, ?_⟩) ?_ ?_
        rotate_left
        ·exact z17_0
        rotate_left
        ·exact z17_1
        refine pure_ (i := 14) (N := some 36) (v := ?_) (a' := ?_) (ba 15 32767) rfl rfl (any_of HT_.out qg3m) (fun _ _ _ h => h) (Or.inl ⟨qgcr, ?_⟩) ?_ ?_
        rotate_left
        ·exact z17_0
        rotate_left
        ·exact z17_1
        refine done_ (done_of HT_.out qg3m) ?_
        try go_wp2
        go_ret2
        exact ⟨qgv2, qpag⟩
      ·rw [if_neg c20] at H
       exact absurd H q6hr
     ·rw [if_neg c19] at H
      exact absurd H q6hr
end Go.Proofs.YtbkgaplldfilnaaDoor.P
