-- slim
-- Written by wip/hprint.py (this session's program) through the kit's print program; hand contracts are marked 'by hand'.
import Derived.Test.YtgdjekigkimhnaaGreatDoorAbb
import Derived.Test.YtgdjekigkimhnaaGreatDoorPx0
import Derived.Test.YtgdjekigkimhnaaGreatDoorPx13
import Derived.Test.YtgdjekigkimhnaaGreatDoorPx14
import Derived.Test.YtgdjekigkimhnaaGreatDoorPx19
import Derived.Test.YtgdjekigkimhnaaGreatDoorPx11
import Derived.Test.YtgdjekigkimhnaaGreatDoorPx17
import Derived.Test.YtgdjekigkimhnaaGreatDoorPx15
import Derived.Test.YtgdjekigkimhnaaGreatDoorPx21
namespace Go.Proofs.YtgdjekigkimhnaaGreatDoor.P
open Go.RowKit Go.Proofs.YtgdjekigkimhnaaGreatDoorW.PrintWords Go.Proofs.YtgdjekigkimhnaaGreatDoorW.PrintLast Go.Proofs.YtgdjekigkimhnaaGreatDoorW.PrintMore
attribute [local go_sem] max2_int min2_int max_two min_two max_three min_three max_four min_four   -- for this text's walks alone
set_option linter.unusedVariables false
set_option linter.unusedSimpArgs false

/-! ### gangwayref02_Mac: function 15 -/
def gangwayref02_Mac.l0 : Nat → ByteArray → ByteArray → Int → Option (ByteArray)
 | 0, _, _, _ => none
 | k + 1, x3, x4, x5 => if x5 < 6 then (if x5 > 0 then (if x4.size + 1 ≤ 9223372036854775807 then (if 0 ≤ x5 then (if x5 ≤ (wrap64 (x5 + 1)) then (if (wrap64 (x5 + 1)) ≤ (x3.size : Int) then ((gangwayref01_Hex.f k (x3.extract (x5 : Int).toNat ((wrap64 (x5 + 1)) : Int).toNat)).bind fun t205 => (if (x4 ++ (⟨#[58]⟩ : ByteArray)).size + t205.size ≤ 9223372036854775807 then (gangwayref02_Mac.l0 k x3 ((x4 ++ (⟨#[58]⟩ : ByteArray)) ++ t205) (wrap64 (x5 + 1))) else (none))) else (none)) else (none)) else (none)) else (none)) else (if 0 ≤ x5 then (if x5 ≤ (wrap64 (x5 + 1)) then (if (wrap64 (x5 + 1)) ≤ (x3.size : Int) then ((gangwayref01_Hex.f k (x3.extract (x5 : Int).toNat ((wrap64 (x5 + 1)) : Int).toNat)).bind fun t206 => (if x4.size + t206.size ≤ 9223372036854775807 then (gangwayref02_Mac.l0 k x3 (x4 ++ t206) (wrap64 (x5 + 1))) else (none))) else (none)) else (none)) else (none))) else (some x4)
def gangwayref02_Mac.f (k : Nat) (a0 : Int) : Option (ByteArray) := (gangwayref01_Bytes.f k a0 6).bind fun t204 => (gangwayref02_Mac.l0 k t204 (⟨#[]⟩ : ByteArray) 0)
theorem gangwayref02_Mac.mono_l : ∀ k, (∀ y0 y1 y2, LeO (gangwayref02_Mac.l0 k y0 y1 y2) (gangwayref02_Mac.l0 (k + 1) y0 y1 y2))
 | 0 => fun _ _ _ r h => by simp [gangwayref02_Mac.l0] at h
 | k + 1 => by
  have ih0 := gangwayref02_Mac.mono_l k
  ·intro y0 y1 y2
   unfold gangwayref02_Mac.l0
   repeat' first
   | (with_reducible exact ih0 _ _ _)
   | (with_reducible exact gangwayref01_Bytes.mono _ _ _)
   | (with_reducible exact gangwayref01_Hex.mono _ _)
   | (with_reducible exact LeO.refl _)
   | (with_reducible exact LeO.none _)
   | (with_reducible refine LeO.ite ?_ ?_)
   | (with_reducible refine LeO.bind ?_ (fun _ => ?_))
   | exact ih0 _ _ _
   | exact gangwayref01_Bytes.mono _ _ _
   | exact gangwayref01_Hex.mono _ _
   | exact LeO.none _
   | refine LeO.ite ?_ ?_
   | refine LeO.bind ?_ (fun _ => ?_)
theorem gangwayref02_Mac.mono : ∀ a0 k, LeO (gangwayref02_Mac.f k a0) (gangwayref02_Mac.f (k + 1) a0) := by
 intro a0 k
 have ih0 := gangwayref02_Mac.mono_l k
 unfold gangwayref02_Mac.f
 repeat' first
   | (with_reducible exact ih0 _ _ _)
   | (with_reducible exact gangwayref01_Bytes.mono _ _ _)
   | (with_reducible exact gangwayref01_Hex.mono _ _)
   | (with_reducible exact LeO.refl _)
   | (with_reducible exact LeO.none _)
   | (with_reducible refine LeO.ite ?_ ?_)
   | (with_reducible refine LeO.bind ?_ (fun _ => ?_))
   | exact ih0 _ _ _
   | exact gangwayref01_Bytes.mono _ _ _
   | exact gangwayref01_Hex.mono _ _
   | exact LeO.none _
   | refine LeO.ite ?_ ?_
   | refine LeO.bind ?_ (fun _ => ?_)
set_option maxHeartbeats 8000000 in
set_option maxRecDepth 100000 in
theorem gangwayref02_Mac.calls (k : Nat) (a0 : Int) (r : ByteArray) (w : World) (h : gangwayref02_Mac.f k a0 = some r) :
  Calls Tryz.prog 15 #[.int .u64 a0] w fun e w' => e = .returned (.string r) ∧ Below w.heap.size w w' := by
 have HB := Aside0.mk (Below.refl w.heap.size w)
 have H := h
 unfold gangwayref02_Mac.f at H
 clear h
 replace H := Option.bind_eq_some_iff.mp H
 obtain ⟨t204, A20, H⟩ := H
 try dsimp only at H
 have A2 := Aside0.mk A20
 clear A20
 have H' := Aside0.mk H
 clear H
 go_enter Tryz.func15, Tryz.ntmps15
 go_wp2_with (first | ((with_reducible refine gate_callee (f := 40) rfl ?_); refine goesL_ (some 7) rfl rfl Tryz.func40 qg3m rfl #[.int .u64 a0, .int .i64 6] rfl qraq ?_; (with_reducible refine (gangwayref01_Bytes.calls k a0 6 t204 _ A2.out).mono ?_); rintro e w3 ⟨rfl, hb⟩; refine ⟨_, rfl, ?_⟩; replace HB := Aside0.mk (below_step qpag hb); (try clear hb); (try clear hb2); (try clear hk); (try clear hi)))
 go_loopg [4, 5] k (fun kq v4 v5 w' => ∃ (x4_1 : ByteArray) (x5_1 : Int), v4 = .string x4_1 ∧ v5 = .int .i64 x5_1 ∧ Aside0 (gangwayref02_Mac.l0 kq t204 x4_1 x5_1 = some r) ∧ Aside0 (kq ≤ k) ∧ Aside0 (Below w.heap.size w w'))
 case atStart => exact ⟨((⟨#[]⟩ : ByteArray)), (0), q8z4, q8z4, H', ⟨Nat.le_refl _⟩, ⟨qpag⟩⟩
 case round =>
  clear H'
  try clear c1
  try clear p2
  obtain ⟨x4_1, x5_1, rfl, rfl, HA, HK1, HB⟩ := hrel
  cases gk with
  | zero => exact absurd HA.out (by simp [gangwayref02_Mac.l0])
  | succ k1 =>
   have H := HA.out
   clear HA
   simp only [gangwayref02_Mac.l0] at H
   by_cases c4 : x5_1 < 6
   ·rw [if_pos c4] at H
    have c4b0 : decide (x5_1 < 6) = true := decide_eq_true c4
    clear c4
    by_cases c5 : x5_1 > 0
    ·rw [if_pos c5] at H
     have c5b0 : decide (0 < x5_1) = true := decide_eq_true c5
     clear c5
     by_cases c6 : x4_1.size + 1 ≤ 9223372036854775807
     ·rw [if_pos c6] at H
      have c6b0 := eq_true c6
      have c6b1 : decide (x4_1.size + 1 ≤ 9223372036854775807) = true := decide_eq_true c6
      try have c6b2 : (9223372036854775807 < x4_1.size + 1) = False := eq_false (Nat.not_lt.2 c6)
      by_cases c7 : 0 ≤ x5_1
      ·rw [if_pos c7] at H
       have c7b0 := eq_true c7
       have c7b1 : decide (0 ≤ x5_1) = true := decide_eq_true c7
       clear c7
       by_cases c8 : x5_1 ≤ (wrap64 (x5_1 + 1))
       ·rw [if_pos c8] at H
        have c8b0 := eq_true c8
        have c8b1 : decide (x5_1 ≤ (wrap64 (x5_1 + 1))) = true := decide_eq_true c8
        by_cases c9 : (wrap64 (x5_1 + 1)) ≤ (t204.size : Int)
        ·rw [if_pos c9] at H
         have c9b0 := eq_true c9
         have c9b1 : decide ((wrap64 (x5_1 + 1)) ≤ (t204.size : Int)) = true := decide_eq_true c9
         replace H := Option.bind_eq_some_iff.mp H
         obtain ⟨t205, A100, H⟩ := H
         try dsimp only at H
         have A10 := Aside0.mk A100
         clear A100
         by_cases c11 : (x4_1 ++ (⟨#[58]⟩ : ByteArray)).size + t205.size ≤ 9223372036854775807
         ·rw [if_pos c11] at H
          have c11b0 := eq_true c11
          have c11b1 : decide ((x4_1 ++ (⟨#[58]⟩ : ByteArray)).size + t205.size ≤ 9223372036854775807) = true := decide_eq_true c11
          have c11z := c11
          simp only [ByteArray.size_append] at c11z
          have c11z1 := eq_true c11z
          have c11z2 := eq_false (Nat.not_lt.2 c11z)
          try (have c11l := c11z; simp only [show (⟨#[58]⟩ : ByteArray).size = 1 from rfl, Nat.reduceAdd] at c11l; have c11l1 := eq_true c11l; have c11l2 := eq_false (Nat.not_lt.2 c11l))
          try have c11b2 : (9223372036854775807 < (x4_1 ++ (⟨#[58]⟩ : ByteArray)).size + t205.size) = False := eq_false (Nat.not_lt.2 c11)
          have H' := Aside0.mk H
          clear H
          go_wp2_with (first | ((with_reducible refine gate_callee (f := 41) rfl ?_); refine goesL_ (some 22) rfl rfl Tryz.func41 qg3m rfl #[.string (t204.extract (x5_1 : Int).toNat ((wrap64 (x5_1 + 1)) : Int).toNat)] rfl qraq ?_; (with_reducible refine (gangwayref01_Hex.calls k1 (t204.extract (x5_1 : Int).toNat ((wrap64 (x5_1 + 1)) : Int).toNat) t205 _ A10.out).mono ?_); rintro e w12 ⟨rfl, hb⟩; refine ⟨_, rfl, ?_⟩; replace HB := Aside0.mk (below_step qpag hb); (try clear hb); (try clear hb2); (try clear hk); (try clear hi)))
          go_roundg k1
          case measure => have := HK1.out; omega
          case rel => exact ⟨((x4_1 ++ (⟨#[58]⟩ : ByteArray)) ++ t205), (wrap64 (x5_1 + 1)), q8z4, q8z4, H', ⟨qi8h⟩, ⟨qpag⟩⟩
         ·rw [if_neg c11] at H
          exact absurd H q6hr
        ·rw [if_neg c9] at H
         exact absurd H q6hr
       ·rw [if_neg c8] at H
        exact absurd H q6hr
      ·rw [if_neg c7] at H
       exact absurd H q6hr
     ·rw [if_neg c6] at H
      exact absurd H q6hr
    ·rw [if_neg c5] at H
     have c5b0 : decide (0 < x5_1) = false := decide_eq_false c5
     clear c5
     by_cases c13 : 0 ≤ x5_1
     ·rw [if_pos c13] at H
      have c13b0 := eq_true c13
      have c13b1 : decide (0 ≤ x5_1) = true := decide_eq_true c13
      clear c13
      by_cases c14 : x5_1 ≤ (wrap64 (x5_1 + 1))
      ·rw [if_pos c14] at H
       have c14b0 := eq_true c14
       have c14b1 : decide (x5_1 ≤ (wrap64 (x5_1 + 1))) = true := decide_eq_true c14
       by_cases c15 : (wrap64 (x5_1 + 1)) ≤ (t204.size : Int)
       ·rw [if_pos c15] at H
        have c15b0 := eq_true c15
        have c15b1 : decide ((wrap64 (x5_1 + 1)) ≤ (t204.size : Int)) = true := decide_eq_true c15
        replace H := Option.bind_eq_some_iff.mp H
        obtain ⟨t206, A160, H⟩ := H
        try dsimp only at H
        have A16 := Aside0.mk A160
        clear A160
        by_cases c17 : x4_1.size + t206.size ≤ 9223372036854775807
        ·rw [if_pos c17] at H
         have c17b0 := eq_true c17
         have c17b1 : decide (x4_1.size + t206.size ≤ 9223372036854775807) = true := decide_eq_true c17
         try have c17b2 : (9223372036854775807 < x4_1.size + t206.size) = False := eq_false (Nat.not_lt.2 c17)
         have H' := Aside0.mk H
         clear H
         go_wp2_with (first | ((with_reducible refine gate_callee (f := 41) rfl ?_); refine goesL_ (some 22) rfl rfl Tryz.func41 qg3m rfl #[.string (t204.extract (x5_1 : Int).toNat ((wrap64 (x5_1 + 1)) : Int).toNat)] rfl qraq ?_; (with_reducible refine (gangwayref01_Hex.calls k1 (t204.extract (x5_1 : Int).toNat ((wrap64 (x5_1 + 1)) : Int).toNat) t206 _ A16.out).mono ?_); rintro e w18 ⟨rfl, hb⟩; refine ⟨_, rfl, ?_⟩; replace HB := Aside0.mk (below_step qpag hb); (try clear hb); (try clear hb2); (try clear hk); (try clear hi)))
         go_roundg k1
         case measure => have := HK1.out; omega
         case rel => exact ⟨(x4_1 ++ t206), (wrap64 (x5_1 + 1)), q8z4, q8z4, H', ⟨qi8h⟩, ⟨qpag⟩⟩
        ·rw [if_neg c17] at H
         exact absurd H q6hr
       ·rw [if_neg c15] at H
        exact absurd H q6hr
      ·rw [if_neg c14] at H
       exact absurd H q6hr
     ·rw [if_neg c13] at H
      exact absurd H q6hr
   ·rw [if_neg c4] at H
    have c4b0 : decide (x5_1 < 6) = false := decide_eq_false c4
    clear c4
    obtain rfl := Option.some.inj H
    go_wp2
    go_ret
    exact ⟨qxu5, qpag⟩

end Go.Proofs.YtgdjekigkimhnaaGreatDoor.P
namespace Go.Proofs.YtgdjekigkimhnaaGreatDoor.P
open Go.RowKit Go.Proofs.YtgdjekigkimhnaaGreatDoorW.PrintWords Go.Proofs.YtgdjekigkimhnaaGreatDoorW.PrintLast Go.Proofs.YtgdjekigkimhnaaGreatDoorW.PrintMore
attribute [local go_sem] max2_int min2_int max_two min_two max_three min_three max_four min_four   -- for this text's walks alone
set_option linter.unusedVariables false
set_option linter.unusedSimpArgs false

/-! ### gangwaylaw02_AddrsTexts: function 3 -/
def gangwaylaw02_AddrsTexts.j0 : Nat → Int → Int → ByteArray → Option (Bool)
 | 0, _, _, _ => none
 | k + 1, x0, x1, x2 => (addrs_ReadMac.f k x2).bind fun bt207 => ((gangwayref02_ReadMac.f k x2).bind fun bt209 => ((addrs_ReadIp.f k x2).bind fun bt211 => ((gangwayref02_ReadIp.f k x2).bind fun bt213 => ((gangwaylaw02_fixed.f k).bind fun t215 => (if t215 = true then ((addrs_Mac.f k x0).bind fun t216 => ((gangwayref02_Mac.f k x0).bind fun t217 => (if t216.toList = t217.toList then ((addrs_Ip.f k x1).bind fun t218 => ((gangwayref02_Ip.f k x1).bind fun t219 => (if t218.toList = t219.toList then (if bt207.1 = bt209.1 then (if bt207.2 = bt209.2 then (if bt211.1 = bt213.1 then (some (bt211.2 == bt213.2)) else (none)) else (none)) else (none)) else (none)))) else (none)))) else (none))))))
def gangwaylaw02_AddrsTexts.f (k : Nat) (a0 : Int) (a1 : Int) (a2 : ByteArray) : Option (Bool) := if 0 ≤ (mn (a2.size : Int) 60) then (if (mn (a2.size : Int) 60) ≤ (a2.size : Int) then (gangwaylaw02_AddrsTexts.j0 k a0 a1 (a2.extract 0 ((mn (a2.size : Int) 60) : Int).toNat)) else (none)) else (none)
theorem gangwaylaw02_AddrsTexts.mono_l : ∀ k, (∀ y0 y1 y2, LeO (gangwaylaw02_AddrsTexts.j0 k y0 y1 y2) (gangwaylaw02_AddrsTexts.j0 (k + 1) y0 y1 y2))
 | 0 => fun _ _ _ r h => by simp [gangwaylaw02_AddrsTexts.j0] at h
 | k + 1 => by
  have ih0 := gangwaylaw02_AddrsTexts.mono_l k
  ·intro y0 y1 y2
   unfold gangwaylaw02_AddrsTexts.j0
   repeat' first
   | (with_reducible exact ih0 _ _ _)
   | (with_reducible exact addrs_Ip.mono _ _)
   | (with_reducible exact addrs_Mac.mono _ _)
   | (with_reducible exact addrs_ReadIp.mono _ _)
   | (with_reducible exact addrs_ReadMac.mono _ _)
   | (with_reducible exact gangwaylaw02_fixed.mono _)
   | (with_reducible exact gangwayref02_Ip.mono _ _)
   | (with_reducible exact gangwayref02_Mac.mono _ _)
   | (with_reducible exact gangwayref02_ReadIp.mono _ _)
   | (with_reducible exact gangwayref02_ReadMac.mono _ _)
   | (with_reducible exact LeO.refl _)
   | (with_reducible exact LeO.none _)
   | (with_reducible refine LeO.ite ?_ ?_)
   | (with_reducible refine LeO.bind ?_ (fun _ => ?_))
   | exact ih0 _ _ _
   | exact addrs_Ip.mono _ _
   | exact addrs_Mac.mono _ _
   | exact addrs_ReadIp.mono _ _
   | exact addrs_ReadMac.mono _ _
   | exact gangwaylaw02_fixed.mono _
   | exact gangwayref02_Ip.mono _ _
   | exact gangwayref02_Mac.mono _ _
   | exact gangwayref02_ReadIp.mono _ _
   | exact gangwayref02_ReadMac.mono _ _
   | exact LeO.none _
   | refine LeO.ite ?_ ?_
   | refine LeO.bind ?_ (fun _ => ?_)
theorem gangwaylaw02_AddrsTexts.mono : ∀ a0 a1 a2 k, LeO (gangwaylaw02_AddrsTexts.f k a0 a1 a2) (gangwaylaw02_AddrsTexts.f (k + 1) a0 a1 a2) := by
 intro a0 a1 a2 k
 have ih0 := gangwaylaw02_AddrsTexts.mono_l k
 unfold gangwaylaw02_AddrsTexts.f
 repeat' first
   | (with_reducible exact ih0 _ _ _)
   | (with_reducible exact addrs_Ip.mono _ _)
   | (with_reducible exact addrs_Mac.mono _ _)
   | (with_reducible exact addrs_ReadIp.mono _ _)
   | (with_reducible exact addrs_ReadMac.mono _ _)
   | (with_reducible exact gangwaylaw02_fixed.mono _)
   | (with_reducible exact gangwayref02_Ip.mono _ _)
   | (with_reducible exact gangwayref02_Mac.mono _ _)
   | (with_reducible exact gangwayref02_ReadIp.mono _ _)
   | (with_reducible exact gangwayref02_ReadMac.mono _ _)
   | (with_reducible exact LeO.refl _)
   | (with_reducible exact LeO.none _)
   | (with_reducible refine LeO.ite ?_ ?_)
   | (with_reducible refine LeO.bind ?_ (fun _ => ?_))
   | exact ih0 _ _ _
   | exact addrs_Ip.mono _ _
   | exact addrs_Mac.mono _ _
   | exact addrs_ReadIp.mono _ _
   | exact addrs_ReadMac.mono _ _
   | exact gangwaylaw02_fixed.mono _
   | exact gangwayref02_Ip.mono _ _
   | exact gangwayref02_Mac.mono _ _
   | exact gangwayref02_ReadIp.mono _ _
   | exact gangwayref02_ReadMac.mono _ _
   | exact LeO.none _
   | refine LeO.ite ?_ ?_
   | refine LeO.bind ?_ (fun _ => ?_)
set_option maxHeartbeats 8000000 in
set_option maxRecDepth 100000 in
theorem gangwaylaw02_AddrsTexts.calls (k : Nat) (a0 : Int) (a1 : Int) (a2 : ByteArray) (r : Bool) (w : World) (hL : Laid w) (h : gangwaylaw02_AddrsTexts.f k a0 a1 a2 = some r) :
  Calls Tryz.prog 3 #[.int .u64 a0, .int .u32 a1, .string a2] w fun e w' => e = .returned (.bool r) ∧ Below w.heap.size w w' := by
 have HLD := Aside0.mk hL
 clear hL
 have HB := Aside0.mk (Below.refl w.heap.size w)
 have H := h
 unfold gangwaylaw02_AddrsTexts.f at H
 clear h
 have HC4 := Aside0.mk H
 clear H
 go_enter Tryz.func3, Tryz.ntmps3
 go_upto_region 1 with (fail)
 go_cut [2] (fun v2 wc => ∃ (kq : Nat) (x2_3 : ByteArray), v2 = .string x2_3 ∧ Aside0 (gangwaylaw02_AddrsTexts.j0 kq a0 a1 x2_3 = some r) ∧ Aside0 (kq ≤ k) ∧ Aside0 (Below w.heap.size w wc))
 case first =>
  have H := HC4.out
  clear HC4
  obtain ⟨ji5, hji5⟩ : ∃ j_ : Int, (mn (a2.size : Int) 60) = j_ := ⟨_, rfl⟩
  replace H : (if 0 ≤ (ji5) then (if (ji5) ≤ (a2.size : Int) then (gangwaylaw02_AddrsTexts.j0 k a0 a1 (a2.extract 0 ((ji5) : Int).toNat)) else (none)) else (none)) = some r := by first | (rw [hji5] at H; exact H) | (simp only [hji5] at H ⊢; exact H)
  (try (have hji5h : ji5 ≤ 60 := by (rw [← hji5]; unfold mn; (repeat' split) <;> omega)))
  (try (have hji5g : ji5 ≤ 64 := by omega))
  (try (have hji5l : 0 ≤ ji5 := by (rw [← hji5]; unfold mn; (repeat' split) <;> omega)))
  (try (have hji5m : 0 ≤ ji5 := by omega))
  have hji5_ : (if 60 < (a2.size : Int) then 60 else (a2.size : Int)) = ji5 := hji5
  by_cases c6 : 0 ≤ (ji5)
  ·rw [if_pos c6] at H
   have c6b0 := eq_true c6
   have c6b1 : decide (0 ≤ (ji5)) = true := decide_eq_true c6
   clear c6
   by_cases c7 : (ji5) ≤ (a2.size : Int)
   ·rw [if_pos c7] at H
    have c7b0 := eq_true c7
    have c7b1 : decide ((ji5) ≤ (a2.size : Int)) = true := decide_eq_true c7
    clear c7
    have H' := Aside0.mk H
    clear H
    go_wp2
    go_meet
    case rel => exact ⟨_, (a2.extract 0 ((ji5) : Int).toNat), (by first | rfl | (simp; done) | (simp only [← hji5] <;> (first | rfl | simp)) | (simp [*]; done)), H', ⟨qpfc⟩, ⟨qpag⟩⟩
   ·rw [if_neg c7] at H
    exact absurd H q6hr
  ·rw [if_neg c6] at H
   exact absurd H q6hr
 case rest =>
  clear HC4
  try clear p2
  try clear c3
  try clear c6
  try clear c6b0
  try clear c6b1
  try clear c7
  try clear c7b0
  try clear c7b1
  obtain ⟨kq, x2_3, rfl, HA, HJ3, HB⟩ := hcut
  cases kq with
  | zero => exact absurd HA.out (by simp [gangwaylaw02_AddrsTexts.j0])
  | succ kj3 =>
   have H := HA.out
   clear HA
   simp only [gangwaylaw02_AddrsTexts.j0] at H
   replace H := Option.bind_eq_some_iff.mp H
   obtain ⟨⟨t207, t208⟩, A80, H⟩ := H
   try dsimp only at H
   have A8 := Aside0.mk A80
   clear A80
   replace H := Option.bind_eq_some_iff.mp H
   obtain ⟨⟨t209, t210⟩, A90, H⟩ := H
   try dsimp only at H
   have A9 := Aside0.mk A90
   clear A90
   replace H := Option.bind_eq_some_iff.mp H
   obtain ⟨⟨t211, t212⟩, A100, H⟩ := H
   try dsimp only at H
   have A10 := Aside0.mk A100
   clear A100
   replace H := Option.bind_eq_some_iff.mp H
   obtain ⟨⟨t213, t214⟩, A110, H⟩ := H
   try dsimp only at H
   have A11 := Aside0.mk A110
   clear A110
   replace H := Option.bind_eq_some_iff.mp H
   obtain ⟨t215, A120, H⟩ := H
   try dsimp only at H
   have A12 := Aside0.mk A120
   clear A120
   by_cases c13 : t215 = true
   ·subst c13
    rw [if_pos rfl] at H
    replace H := Option.bind_eq_some_iff.mp H
    obtain ⟨t216, A140, H⟩ := H
    try dsimp only at H
    have A14 := Aside0.mk A140
    clear A140
    replace H := Option.bind_eq_some_iff.mp H
    obtain ⟨t217, A150, H⟩ := H
    try dsimp only at H
    have A15 := Aside0.mk A150
    clear A150
    by_cases c16 : t216.toList = t217.toList
    ·rw [if_pos c16] at H
     have c16b0 : (t216.toList == t217.toList) = true := beq_iff_eq.mpr c16
     have c16b1 : (t216.toList != t217.toList) = false := bne_eq_false_iff_eq.mpr c16
     clear c16
     replace H := Option.bind_eq_some_iff.mp H
     obtain ⟨t218, A170, H⟩ := H
     try dsimp only at H
     have A17 := Aside0.mk A170
     clear A170
     replace H := Option.bind_eq_some_iff.mp H
     obtain ⟨t219, A180, H⟩ := H
     try dsimp only at H
     have A18 := Aside0.mk A180
     clear A180
     by_cases c19 : t218.toList = t219.toList
     ·rw [if_pos c19] at H
      have c19b0 : (t218.toList == t219.toList) = true := beq_iff_eq.mpr c19
      have c19b1 : (t218.toList != t219.toList) = false := bne_eq_false_iff_eq.mpr c19
      clear c19
      by_cases c20 : t207 = t209
      ·rw [if_pos c20] at H
       have c20b0 : (t207 == t209) = true := beq_iff_eq.mpr c20
       have c20b1 : (t207 != t209) = false := bne_eq_false_iff_eq.mpr c20
       clear c20
       by_cases c21 : t208 = t210
       ·rw [if_pos c21] at H
        have c21b0 : (t208 == t210) = true := beq_iff_eq.mpr c21
        have c21b1 : (t208 != t210) = false := bne_eq_false_iff_eq.mpr c21
        clear c21
        by_cases c22 : t211 = t213
        ·rw [if_pos c22] at H
         have c22b0 : (t211 == t213) = true := beq_iff_eq.mpr c22
         have c22b1 : (t211 != t213) = false := bne_eq_false_iff_eq.mpr c22
         clear c22
         obtain rfl := Option.some.inj H
         go_wp2_with (first | ((with_reducible refine gate_callee (f := 9) rfl ?_); refine goesL_ (some 22) rfl rfl Tryz.func9 qg3m rfl #[.string x2_3] rfl qraq ?_; (with_reducible refine (addrs_ReadMac.calls kj3 x2_3 t207 t208 _ ?sideL A8.out).mono ?_); (case sideL => exact laid_below HLD.out qpag); rintro e w23 ⟨rfl, hb⟩; refine ⟨_, rfl, ?_⟩; replace HB := Aside0.mk (below_step qpag hb); (try clear hb); (try clear hb2); (try clear hk); (try clear hi)) | ((with_reducible refine gate_callee (f := 10) rfl ?_); refine goesL_ (some 27) rfl rfl Tryz.func10 qg3m rfl #[.string x2_3] rfl qraq ?_; (with_reducible refine (gangwayref02_ReadMac.calls kj3 x2_3 t209 t210 _ A9.out).mono ?_); rintro e w24 ⟨rfl, hb⟩; refine ⟨_, rfl, ?_⟩; replace HB := Aside0.mk (below_step qpag hb); (try clear hb); (try clear hb2); (try clear hk); (try clear hi)) | ((with_reducible refine gate_callee (f := 11) rfl ?_); refine goesL_ (some 32) rfl rfl Tryz.func11 qg3m rfl #[.string x2_3] rfl qraq ?_; (with_reducible refine (addrs_ReadIp.calls kj3 x2_3 t211 t212 _ ?sideL A10.out).mono ?_); (case sideL => exact laid_below HLD.out qpag); rintro e w25 ⟨rfl, hb⟩; refine ⟨_, rfl, ?_⟩; replace HB := Aside0.mk (below_step qpag hb); (try clear hb); (try clear hb2); (try clear hk); (try clear hi)) | ((with_reducible refine gate_callee (f := 12) rfl ?_); refine goesL_ (some 37) rfl rfl Tryz.func12 qg3m rfl #[.string x2_3] rfl qraq ?_; (with_reducible refine (gangwayref02_ReadIp.calls kj3 x2_3 t213 t214 _ A11.out).mono ?_); rintro e w26 ⟨rfl, hb⟩; refine ⟨_, rfl, ?_⟩; replace HB := Aside0.mk (below_step qpag hb); (try clear hb); (try clear hb2); (try clear hk); (try clear hi)) | ((with_reducible refine gate_callee (f := 13) rfl ?_); refine goesL_ (some 40) rfl rfl Tryz.func13 qg3m rfl #[] rfl qraq ?_; (with_reducible refine (gangwaylaw02_fixed.calls kj3  true _ ?sideL A12.out).mono ?_); (case sideL => exact laid_below HLD.out qpag); rintro e w27 ⟨rfl, hb⟩; refine ⟨_, rfl, ?_⟩; replace HB := Aside0.mk (below_step qpag hb); (try clear hb); (try clear hb2); (try clear hk); (try clear hi)) | (go_at_call 14; (with_reducible refine (addrs_Mac.calls kj3 a0 t216 _ A14.out).mono ?_); rintro e w28 ⟨rfl, hb⟩; replace HB := Aside0.mk (below_step qpag hb); (try clear hb); (try clear hb2); (try clear hk); (try clear hi)) | (go_at_call 15; (with_reducible refine (gangwayref02_Mac.calls kj3 a0 t217 _ A15.out).mono ?_); rintro e w29 ⟨rfl, hb⟩; replace HB := Aside0.mk (below_step qpag hb); (try clear hb); (try clear hb2); (try clear hk); (try clear hi)) | (go_at_call 16; (with_reducible refine (addrs_Ip.calls kj3 a1 t218 _ ?sideL A17.out).mono ?_); (case sideL => exact laid_below HLD.out qpag); rintro e w30 ⟨rfl, hb⟩; replace HB := Aside0.mk (below_step qpag hb); (try clear hb); (try clear hb2); (try clear hk); (try clear hi)) | (go_at_call 17; (with_reducible refine (gangwayref02_Ip.calls kj3 a1 t219 _ A18.out).mono ?_); rintro e w31 ⟨rfl, hb⟩; replace HB := Aside0.mk (below_step qpag hb); (try clear hb); (try clear hb2); (try clear hk); (try clear hi)))
         go_ret
         exact ⟨qxu5, qpag⟩
        ·rw [if_neg c22] at H
         exact absurd H q6hr
       ·rw [if_neg c21] at H
        exact absurd H q6hr
      ·rw [if_neg c20] at H
       exact absurd H q6hr
     ·rw [if_neg c19] at H
      exact absurd H q6hr
    ·rw [if_neg c16] at H
     exact absurd H q6hr
   ·replace c13 := Bool.eq_false_iff.mpr c13
    subst c13
    rw [if_neg (show ¬ (false = true) by decide)] at H
    exact absurd H q6hr


/-! ### gangwayref02_Group: function 19 -/
def gangwayref02_Group.f (a0 : Int) : Option (Bool) := some ((Int.tmod (IntKind.u64.wrap (Int.tdiv a0 1099511627776)) 2) == 1)
set_option maxHeartbeats 8000000 in
set_option maxRecDepth 100000 in
theorem gangwayref02_Group.calls (a0 : Int) (r : Bool) (w : World) (h : gangwayref02_Group.f a0 = some r) :
  Calls Tryz.prog 19 #[.int .u64 a0] w fun e w' => e = .returned (.bool r) ∧ Drawn0 w w' := by
 have H := h
 unfold gangwayref02_Group.f at H
 clear h
 obtain rfl := Option.some.inj H
 go_enter Tryz.func19, Tryz.ntmps19
 go_wp2
 go_ret
 exact ⟨q8z4, qlmv⟩

end Go.Proofs.YtgdjekigkimhnaaGreatDoor.P
