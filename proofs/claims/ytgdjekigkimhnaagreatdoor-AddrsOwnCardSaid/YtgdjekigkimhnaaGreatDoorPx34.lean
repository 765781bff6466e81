-- slim
-- Written by wip/hprint.py (this session's program) through the kit's print program; hand contracts are marked 'by hand'.
import Derived.Test.YtgdjekigkimhnaaGreatDoorAbb
import Derived.Test.YtgdjekigkimhnaaGreatDoorPx0
import Derived.Test.YtgdjekigkimhnaaGreatDoorPx14
import Derived.Test.YtgdjekigkimhnaaGreatDoorPx21
namespace Go.Proofs.YtgdjekigkimhnaaGreatDoor.P
open Go.RowKit Go.Proofs.YtgdjekigkimhnaaGreatDoorW.PrintWords Go.Proofs.YtgdjekigkimhnaaGreatDoorW.PrintLast Go.Proofs.YtgdjekigkimhnaaGreatDoorW.PrintMore
attribute [local go_sem] max2_int min2_int max_two min_two max_three min_three max_four min_four   -- for this text's walks alone
set_option linter.unusedVariables false
set_option linter.unusedSimpArgs false

/-! ### gangwaylaw02_AddrsOwn: function 8 -/
def gangwaylaw02_AddrsOwn.j0 : Nat → Int → Bool → Option (Bool)
 | 0, _, _ => none
 | k + 1, x0, x5 => (addrs_Group.f x0).bind fun t326 => (if (t326 == x5) = true then ((addrs_Own.f x0).bind fun t327 => (if t327 = true then (if x5 = true then (none) else (if x0 > 0 then (if x0 < 281474976710656 then ((addrs_Own.f (Go.bits .or .u64 x0 281474976710656)).bind fun t328 => (if t328 = true then (none) else ((addrs_Own.f (Go.bits .or .u64 x0 1099511627776)).bind fun t329 => (if t329 = true then (none) else ((gangwaylaw02_fixed.f k).bind fun t330 => (some t330)))))) else (none)) else (none))) else ((addrs_Own.f (Go.bits .or .u64 x0 281474976710656)).bind fun t331 => (if t331 = true then (none) else ((addrs_Own.f (Go.bits .or .u64 x0 1099511627776)).bind fun t332 => (if t332 = true then (none) else ((gangwaylaw02_fixed.f k).bind fun t333 => (some t333)))))))) else (none))
def gangwaylaw02_AddrsOwn.f (k : Nat) (a0 : Int) : Option (Bool) := (addrs_Mac.f k a0).bind fun t325 => (if (t325.size : Int) = 17 then (if 1 < (t325.size : Int) then (if (bt t325 1) = 49 then (gangwaylaw02_AddrsOwn.j0 k a0 true) else (if (bt t325 1) = 51 then (gangwaylaw02_AddrsOwn.j0 k a0 true) else (if (bt t325 1) = 53 then (gangwaylaw02_AddrsOwn.j0 k a0 true) else (if (bt t325 1) = 55 then (gangwaylaw02_AddrsOwn.j0 k a0 true) else (if (bt t325 1) = 57 then (gangwaylaw02_AddrsOwn.j0 k a0 true) else (if (bt t325 1) = 98 then (gangwaylaw02_AddrsOwn.j0 k a0 true) else (if (bt t325 1) = 100 then (gangwaylaw02_AddrsOwn.j0 k a0 true) else (gangwaylaw02_AddrsOwn.j0 k a0 ((bt t325 1) == 102))))))))) else (none)) else (none))
theorem gangwaylaw02_AddrsOwn.mono_l : ∀ k, (∀ y0 y1, LeO (gangwaylaw02_AddrsOwn.j0 k y0 y1) (gangwaylaw02_AddrsOwn.j0 (k + 1) y0 y1))
 | 0 => fun _ _ r h => by simp [gangwaylaw02_AddrsOwn.j0] at h
 | k + 1 => by
  have ih0 := gangwaylaw02_AddrsOwn.mono_l k
  ·intro y0 y1
   unfold gangwaylaw02_AddrsOwn.j0
   repeat' first
   | (with_reducible exact ih0 _ _)
   | (with_reducible exact addrs_Mac.mono _ _)
   | (with_reducible exact gangwaylaw02_fixed.mono _)
   | (with_reducible exact LeO.refl _)
   | (with_reducible exact LeO.none _)
   | (with_reducible refine LeO.ite ?_ ?_)
   | (with_reducible refine LeO.bind ?_ (fun _ => ?_))
   | exact ih0 _ _
   | exact addrs_Mac.mono _ _
   | exact gangwaylaw02_fixed.mono _
   | exact LeO.none _
   | refine LeO.ite ?_ ?_
   | refine LeO.bind ?_ (fun _ => ?_)
theorem gangwaylaw02_AddrsOwn.mono : ∀ a0 k, LeO (gangwaylaw02_AddrsOwn.f k a0) (gangwaylaw02_AddrsOwn.f (k + 1) a0) := by
 intro a0 k
 have ih0 := gangwaylaw02_AddrsOwn.mono_l k
 unfold gangwaylaw02_AddrsOwn.f
 repeat' first
   | (with_reducible exact ih0 _ _)
   | (with_reducible exact addrs_Mac.mono _ _)
   | (with_reducible exact gangwaylaw02_fixed.mono _)
   | (with_reducible exact LeO.refl _)
   | (with_reducible exact LeO.none _)
   | (with_reducible refine LeO.ite ?_ ?_)
   | (with_reducible refine LeO.bind ?_ (fun _ => ?_))
   | exact ih0 _ _
   | exact addrs_Mac.mono _ _
   | exact gangwaylaw02_fixed.mono _
   | exact LeO.none _
   | refine LeO.ite ?_ ?_
   | refine LeO.bind ?_ (fun _ => ?_)
theorem z34_0 {p : Prop} (h : p := by
 have H' := Aside0.mk H
 clear H
 go_wp2
 go_meet
 case rel => exact ⟨_, (true), q8z4, H', ⟨qpfc⟩, ⟨qpag⟩⟩) : p := h
theorem z34_1 {p : Prop} (h : p := by
 rw [if_pos rfl] at H
 exact absurd H q6hr) : p := h
set_option maxHeartbeats 8000000 in
set_option maxRecDepth 100000 in
theorem gangwaylaw02_AddrsOwn.calls (k : Nat) (a0 : Int) (r : Bool) (w : World) (hL : Laid w) (h : gangwaylaw02_AddrsOwn.f k a0 = some r) :
  Calls Tryz.prog 8 #[.int .u64 a0] w fun e w' => e = .returned (.bool r) ∧ Below w.heap.size w w' := by
 have HLD := Aside0.mk hL
 clear hL
 have HB := Aside0.mk (Below.refl w.heap.size w)
 have H := h
 unfold gangwaylaw02_AddrsOwn.f at H
 clear h
 replace H := Option.bind_eq_some_iff.mp H
 obtain ⟨t325, A20, H⟩ := H
 try dsimp only at H
 have A2 := Aside0.mk A20
 clear A20
 by_cases c3 : (t325.size : Int) = 17
 ·rw [if_pos c3] at H
  have c3b0 : ((t325.size : Int) == 17) = true := beq_iff_eq.mpr c3
  have c3b1 : ((t325.size : Int) != 17) = false := bne_eq_false_iff_eq.mpr c3
  clear c3
  by_cases c4 : 1 < (t325.size : Int)
  ·rw [if_pos c4] at H
   have c4b0 : decide (1 < (t325.size : Int)) = true := decide_eq_true c4
   have c4b1 : decide (1 < t325.size) = true := decide_eq_true q1jy
   clear c4
   have HC6 := Aside0.mk H
   clear H
   go_enter Tryz.func8, Tryz.ntmps8
   go_upto_region 5 with (first | ((with_reducible refine gate_callee (f := 14) rfl ?_); refine goesL_ (some 7) rfl rfl Tryz.func14 qg3m rfl #[.int .u64 a0] rfl qraq ?_; (with_reducible refine (addrs_Mac.calls k a0 t325 _ A2.out).mono ?_); rintro e w7 ⟨rfl, hb⟩; refine ⟨_, rfl, ?_⟩; replace HB := Aside0.mk (below_step qpag hb); (try clear hb); (try clear hb2); (try clear hk); (try clear hi); have p5 : 0 ≤ (1 : Int) := q1jy; have q5 : 1 < t325.size := (by have : (1 : Int) < (t325.size : Int) := of_decide_eq_true qlss; omega); have hx5 : ∀ h : 1 < t325.size, ((t325[1]'h).toNat : Int) = bt t325 1 := bt_at t325 1; clear p5; have qi5 : (1 < (t325.size : Int)) = True := eq_true (of_decide_eq_true qlss); replace q5 := eq_true q5))
   (try simp only [Act.put, List.setIfInBounds_toArray, List.set_cons_zero, List.set_cons_succ])
   go_cut [5] (fun v5 wc => ∃ (kq : Nat) (x5_5 : Bool), v5 = .bool x5_5 ∧ Aside0 (gangwaylaw02_AddrsOwn.j0 kq a0 x5_5 = some r) ∧ Aside0 (kq ≤ k) ∧ Aside0 (Below w.heap.size w wc))
   case first =>
    have H := HC6.out
    clear HC6
    by_cases c8 : (bt t325 1) = 49
    ·rw [if_pos c8] at H
     have c8b0 : ((bt t325 1) == 49) = true := beq_iff_eq.mpr c8
     have c8b1 : ((bt t325 1) != 49) = false := bne_eq_false_iff_eq.mpr c8
     clear c8
     (first | rw [c8b0] | (simp only [i64_w, i32_w]; rw [c8b0]) | skip)
     exact z34_0
    ·rw [if_neg c8] at H
     have c8b0 : ((bt t325 1) == 49) = false := beq_eq_false_iff_ne.mpr c8
     have c8b1 : ((bt t325 1) != 49) = true := bne_iff_ne.mpr c8
     (first | rw [c8b0] | (simp only [i64_w, i32_w]; rw [c8b0]) | skip)
     by_cases c9 : (bt t325 1) = 51
     ·rw [if_pos c9] at H
      have c9b0 : ((bt t325 1) == 51) = true := beq_iff_eq.mpr c9
      have c9b1 : ((bt t325 1) != 51) = false := bne_eq_false_iff_eq.mpr c9
      clear c9
      exact z34_0
     ·rw [if_neg c9] at H
      have c9b0 : ((bt t325 1) == 51) = false := beq_eq_false_iff_ne.mpr c9
      have c9b1 : ((bt t325 1) != 51) = true := bne_iff_ne.mpr c9
      by_cases c10 : (bt t325 1) = 53
      ·rw [if_pos c10] at H
       have c10b0 : ((bt t325 1) == 53) = true := beq_iff_eq.mpr c10
       have c10b1 : ((bt t325 1) != 53) = false := bne_eq_false_iff_eq.mpr c10
       clear c10
       exact z34_0
      ·rw [if_neg c10] at H
       have c10b0 : ((bt t325 1) == 53) = false := beq_eq_false_iff_ne.mpr c10
       have c10b1 : ((bt t325 1) != 53) = true := bne_iff_ne.mpr c10
       by_cases c11 : (bt t325 1) = 55
       ·rw [if_pos c11] at H
        have c11b0 : ((bt t325 1) == 55) = true := beq_iff_eq.mpr c11
        have c11b1 : ((bt t325 1) != 55) = false := bne_eq_false_iff_eq.mpr c11
        clear c11
        exact z34_0
       ·rw [if_neg c11] at H
        have c11b0 : ((bt t325 1) == 55) = false := beq_eq_false_iff_ne.mpr c11
        have c11b1 : ((bt t325 1) != 55) = true := bne_iff_ne.mpr c11
        by_cases c12 : (bt t325 1) = 57
        ·rw [if_pos c12] at H
         have c12b0 : ((bt t325 1) == 57) = true := beq_iff_eq.mpr c12
         have c12b1 : ((bt t325 1) != 57) = false := bne_eq_false_iff_eq.mpr c12
         clear c12
         exact z34_0
        ·rw [if_neg c12] at H
         have c12b0 : ((bt t325 1) == 57) = false := beq_eq_false_iff_ne.mpr c12
         have c12b1 : ((bt t325 1) != 57) = true := bne_iff_ne.mpr c12
         by_cases c13 : (bt t325 1) = 98
         ·rw [if_pos c13] at H
          have c13b0 : ((bt t325 1) == 98) = true := beq_iff_eq.mpr c13
          have c13b1 : ((bt t325 1) != 98) = false := bne_eq_false_iff_eq.mpr c13
          clear c13
          exact z34_0
         ·rw [if_neg c13] at H
          have c13b0 : ((bt t325 1) == 98) = false := beq_eq_false_iff_ne.mpr c13
          have c13b1 : ((bt t325 1) != 98) = true := bne_iff_ne.mpr c13
          by_cases c14 : (bt t325 1) = 100
          ·rw [if_pos c14] at H
           have c14b0 : ((bt t325 1) == 100) = true := beq_iff_eq.mpr c14
           have c14b1 : ((bt t325 1) != 100) = false := bne_eq_false_iff_eq.mpr c14
           clear c14
           exact z34_0
          ·rw [if_neg c14] at H
           have c14b0 : ((bt t325 1) == 100) = false := beq_eq_false_iff_ne.mpr c14
           have c14b1 : ((bt t325 1) != 100) = true := bne_iff_ne.mpr c14
           have H' := Aside0.mk H
           clear H
           go_wp2
           go_meet
           case rel => exact ⟨_, (((bt t325 1) == 102)), q8z4, H', ⟨qpfc⟩, ⟨qpag⟩⟩
   case rest =>
    clear HC6
    try clear c1
    try clear p2
    try clear c3
    try clear c3b0
    try clear c3b1
    try clear c4
    try clear c4b0
    try clear c4b1
    try clear p5
    try clear q5
    try clear hx5
    try clear qi5
    try clear c8
    try clear c8b0
    try clear c8b1
    try clear c9
    try clear c9b0
    try clear c9b1
    try clear c10
    try clear c10b0
    try clear c10b1
    try clear c11
    try clear c11b0
    try clear c11b1
    try clear c12
    try clear c12b0
    try clear c12b1
    try clear c13
    try clear c13b0
    try clear c13b1
    try clear c14
    try clear c14b0
    try clear c14b1
    try clear p5
    try clear q5
    obtain ⟨kq, x5_5, rfl, HA, HJ5, HB⟩ := hcut
    cases kq with
    | zero => exact absurd HA.out (by simp [gangwaylaw02_AddrsOwn.j0])
    | succ kj5 =>
     have H := HA.out
     clear HA
     simp only [gangwaylaw02_AddrsOwn.j0] at H
     replace H := Option.bind_eq_some_iff.mp H
     obtain ⟨t326, A150, H⟩ := H
     try dsimp only at H
     have A15 := Aside0.mk A150
     clear A150
     by_cases c16 : (t326 == x5_5) = true
     ·rw [if_pos c16] at H
      have c16b0 : (t326 == x5_5) = true := c16
      (try (have c16b1 : decide (t326 = x5_5) = true := by simpa using c16))
      (try (have c16b2 : (t326 == x5_5) = true := by simpa using c16))
      clear c16
      replace H := Option.bind_eq_some_iff.mp H
      obtain ⟨t327, A170, H⟩ := H
      try dsimp only at H
      have A17 := Aside0.mk A170
      clear A170
      by_cases c18 : t327 = true
      ·subst c18
       rw [if_pos rfl] at H
       by_cases c19 : x5_5 = true
       ·subst c19
        exact z34_1
       ·replace c19 := Bool.eq_false_iff.mpr c19
        subst c19
        rw [if_neg (show ¬ (false = true) by decide)] at H
        by_cases c20 : a0 > 0
        ·rw [if_pos c20] at H
         have c20b0 : decide (0 < a0) = true := decide_eq_true c20
         clear c20
         by_cases c21 : a0 < 281474976710656
         ·rw [if_pos c21] at H
          have c21b0 : decide (a0 < 281474976710656) = true := decide_eq_true c21
          clear c21
          replace H := Option.bind_eq_some_iff.mp H
          obtain ⟨t328, A220, H⟩ := H
          try dsimp only at H
          have A22 := Aside0.mk A220
          clear A220
          by_cases c23 : t328 = true
          ·subst c23
           exact z34_1
          ·replace c23 := Bool.eq_false_iff.mpr c23
           subst c23
           rw [if_neg (show ¬ (false = true) by decide)] at H
           replace H := Option.bind_eq_some_iff.mp H
           obtain ⟨t329, A240, H⟩ := H
           try dsimp only at H
           have A24 := Aside0.mk A240
           clear A240
           by_cases c25 : t329 = true
           ·subst c25
            exact z34_1
           ·replace c25 := Bool.eq_false_iff.mpr c25
            subst c25
            rw [if_neg (show ¬ (false = true) by decide)] at H
            replace H := Option.bind_eq_some_iff.mp H
            obtain ⟨t330, A260, H⟩ := H
            try dsimp only at H
            have A26 := Aside0.mk A260
            clear A260
            obtain rfl := Option.some.inj H
            go_wp2_with (first | ((with_reducible refine gate_callee (f := 18) rfl ?_); refine goesL_ (some 44) rfl rfl Tryz.func18 qg3m rfl #[.int .u64 a0] rfl qraq ?_; (with_reducible refine (addrs_Group.calls a0 t326 _ A15.out).mono ?_); rintro e w' ⟨rfl, ⟨nd, rfl⟩⟩; refine ⟨_, rfl, ?_⟩) | (go_at_call 20; (with_reducible refine (addrs_Own.calls a0 true _ A17.out).mono ?_); rintro e w' ⟨rfl, ⟨nd, rfl⟩⟩) | (go_at_call 20; (with_reducible refine (addrs_Own.calls (Go.bits .or .u64 a0 281474976710656) false _ A22.out).mono ?_); rintro e w' ⟨rfl, ⟨nd, rfl⟩⟩) | (go_at_call 20; (with_reducible refine (addrs_Own.calls (Go.bits .or .u64 a0 1099511627776) false _ A24.out).mono ?_); rintro e w' ⟨rfl, ⟨nd, rfl⟩⟩) | (go_at_call 13; (with_reducible refine (gangwaylaw02_fixed.calls kj5  t330 _ ?sideL A26.out).mono ?_); (case sideL => exact laid_below HLD.out qpag); rintro e w27 ⟨rfl, hb⟩; replace HB := Aside0.mk (below_step qpag hb); (try clear hb); (try clear hb2); (try clear hk); (try clear hi)))
            go_ret
            exact ⟨qxu5, qpag⟩
         ·rw [if_neg c21] at H
          exact absurd H q6hr
        ·rw [if_neg c20] at H
         exact absurd H q6hr
      ·replace c18 := Bool.eq_false_iff.mpr c18
       subst c18
       rw [if_neg (show ¬ (false = true) by decide)] at H
       replace H := Option.bind_eq_some_iff.mp H
       obtain ⟨t331, A280, H⟩ := H
       try dsimp only at H
       have A28 := Aside0.mk A280
       clear A280
       by_cases c29 : t331 = true
       ·subst c29
        exact z34_1
       ·replace c29 := Bool.eq_false_iff.mpr c29
        subst c29
        rw [if_neg (show ¬ (false = true) by decide)] at H
        replace H := Option.bind_eq_some_iff.mp H
        obtain ⟨t332, A300, H⟩ := H
        try dsimp only at H
        have A30 := Aside0.mk A300
        clear A300
        by_cases c31 : t332 = true
        ·subst c31
         exact z34_1
        ·replace c31 := Bool.eq_false_iff.mpr c31
         subst c31
         rw [if_neg (show ¬ (false = true) by decide)] at H
         replace H := Option.bind_eq_some_iff.mp H
         obtain ⟨t333, A320, H⟩ := H
         try dsimp only at H
         have A32 := Aside0.mk A320
         clear A320
         obtain rfl := Option.some.inj H
         go_wp2_with (first | ((with_reducible refine gate_callee (f := 18) rfl ?_); refine goesL_ (some 44) rfl rfl Tryz.func18 qg3m rfl #[.int .u64 a0] rfl qraq ?_; (with_reducible refine (addrs_Group.calls a0 t326 _ A15.out).mono ?_); rintro e w' ⟨rfl, ⟨nd, rfl⟩⟩; refine ⟨_, rfl, ?_⟩) | (go_at_call 20; (with_reducible refine (addrs_Own.calls a0 false _ A17.out).mono ?_); rintro e w' ⟨rfl, ⟨nd, rfl⟩⟩) | (go_at_call 20; (with_reducible refine (addrs_Own.calls (Go.bits .or .u64 a0 281474976710656) false _ A28.out).mono ?_); rintro e w' ⟨rfl, ⟨nd, rfl⟩⟩) | (go_at_call 20; (with_reducible refine (addrs_Own.calls (Go.bits .or .u64 a0 1099511627776) false _ A30.out).mono ?_); rintro e w' ⟨rfl, ⟨nd, rfl⟩⟩) | (go_at_call 13; (with_reducible refine (gangwaylaw02_fixed.calls kj5  t333 _ ?sideL A32.out).mono ?_); (case sideL => exact laid_below HLD.out qpag); rintro e w33 ⟨rfl, hb⟩; replace HB := Aside0.mk (below_step qpag hb); (try clear hb); (try clear hb2); (try clear hk); (try clear hi)))
         go_ret
         exact ⟨qxu5, qpag⟩
     ·rw [if_neg c16] at H
      exact absurd H q6hr
  ·rw [if_neg c4] at H
   exact absurd H q6hr
 ·rw [if_neg c3] at H
  exact absurd H q6hr
end Go.Proofs.YtgdjekigkimhnaaGreatDoor.P
