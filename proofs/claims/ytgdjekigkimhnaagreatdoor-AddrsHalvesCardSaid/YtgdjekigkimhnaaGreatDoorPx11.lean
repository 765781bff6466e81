-- slim
-- Written by wip/hprint.py (this session's program) through the kit's print program; hand contracts are marked 'by hand'.
import Derived.Test.YtgdjekigkimhnaaGreatDoorAbb
import Derived.Test.YtgdjekigkimhnaaGreatDoorPx0
import Derived.Test.YtgdjekigkimhnaaGreatDoorPx9
namespace Go.Proofs.YtgdjekigkimhnaaGreatDoor.P
open Go.RowKit Go.Proofs.YtgdjekigkimhnaaGreatDoorW.PrintWords Go.Proofs.YtgdjekigkimhnaaGreatDoorW.PrintLast Go.Proofs.YtgdjekigkimhnaaGreatDoorW.PrintMore
attribute [local go_sem] max2_int min2_int max_two min_two max_three min_three max_four min_four   -- for this text's walks alone
set_option linter.unusedVariables false
set_option linter.unusedSimpArgs false

/-! ### gangwayref02_ReadMac: function 10 -/
def gangwayref02_ReadMac.l0 : Nat → ByteArray → ByteArray → Int → Option (Int × Int)
 | 0, _, _, _ => none
 | k + 1, x0, x4, x5 => if x5 < 17 then (if 0 ≤ x5 then (if x5 ≤ (wrap64 (x5 + 2)) then (if (wrap64 (x5 + 2)) ≤ (x0.size : Int) then ((gangwayref01_Unhex.f k (x0.extract (x5 : Int).toNat ((wrap64 (x5 + 2)) : Int).toNat)).bind fun bt132 => (if bt132.2 = 0 then (if x5 > 0 then (if 0 ≤ (wrap64 (x5 - 1)) then (if (wrap64 (x5 - 1)) < (x0.size : Int) then (if (bt x0 (wrap64 (x5 - 1))) = 58 then (if x4.size + bt132.1.size ≤ 9223372036854775807 then (gangwayref02_ReadMac.l0 k x0 (x4 ++ bt132.1) (wrap64 (x5 + 3))) else (none)) else (some (0, 20))) else (none)) else (none)) else (if x4.size + bt132.1.size ≤ 9223372036854775807 then (gangwayref02_ReadMac.l0 k x0 (x4 ++ bt132.1) (wrap64 (x5 + 3))) else (none))) else (some (0, 20)))) else (none)) else (none)) else (none)) else ((gangwayref01_Num.f k x4).bind fun t134 => (some (t134, 0)))
def gangwayref02_ReadMac.f (k : Nat) (a0 : ByteArray) : Option (Int × Int) := if (a0.size : Int) = 17 then (gangwayref02_ReadMac.l0 k a0 (⟨#[]⟩ : ByteArray) 0) else (some (0, 20))
theorem gangwayref02_ReadMac.mono_l : ∀ k, (∀ y0 y1 y2, LeO (gangwayref02_ReadMac.l0 k y0 y1 y2) (gangwayref02_ReadMac.l0 (k + 1) y0 y1 y2))
 | 0 => fun _ _ _ r h => by simp [gangwayref02_ReadMac.l0] at h
 | k + 1 => by
  have ih0 := gangwayref02_ReadMac.mono_l k
  ·intro y0 y1 y2
   unfold gangwayref02_ReadMac.l0
   repeat' first
   | (with_reducible exact ih0 _ _ _)
   | (with_reducible exact gangwayref01_Num.mono _ _)
   | (with_reducible exact gangwayref01_Unhex.mono _ _)
   | (with_reducible exact LeO.refl _)
   | (with_reducible exact LeO.none _)
   | (with_reducible refine LeO.ite ?_ ?_)
   | (with_reducible refine LeO.bind ?_ (fun _ => ?_))
   | exact ih0 _ _ _
   | exact gangwayref01_Num.mono _ _
   | exact gangwayref01_Unhex.mono _ _
   | exact LeO.none _
   | refine LeO.ite ?_ ?_
   | refine LeO.bind ?_ (fun _ => ?_)
theorem gangwayref02_ReadMac.mono : ∀ a0 k, LeO (gangwayref02_ReadMac.f k a0) (gangwayref02_ReadMac.f (k + 1) a0) := by
 intro a0 k
 have ih0 := gangwayref02_ReadMac.mono_l k
 unfold gangwayref02_ReadMac.f
 repeat' first
   | (with_reducible exact ih0 _ _ _)
   | (with_reducible exact gangwayref01_Num.mono _ _)
   | (with_reducible exact gangwayref01_Unhex.mono _ _)
   | (with_reducible exact LeO.refl _)
   | (with_reducible exact LeO.none _)
   | (with_reducible refine LeO.ite ?_ ?_)
   | (with_reducible refine LeO.bind ?_ (fun _ => ?_))
   | exact ih0 _ _ _
   | exact gangwayref01_Num.mono _ _
   | exact gangwayref01_Unhex.mono _ _
   | exact LeO.none _
   | refine LeO.ite ?_ ?_
   | refine LeO.bind ?_ (fun _ => ?_)
set_option maxHeartbeats 8000000 in
set_option maxRecDepth 100000 in
theorem gangwayref02_ReadMac.calls (k : Nat) (a0 : ByteArray) (r1 : Int) (r2 : Int) (w : World) (h : gangwayref02_ReadMac.f k a0 = some (r1, r2)) :
  Calls Tryz.prog 10 #[.string a0] w fun e w' => e = .returned (.tuple #[.int .u64 r1, .int .i64 r2]) ∧ Below w.heap.size w w' := by
 have HB := Aside0.mk (Below.refl w.heap.size w)
 have H := h
 unfold gangwayref02_ReadMac.f at H
 clear h
 by_cases c2 : (a0.size : Int) = 17
 ·rw [if_pos c2] at H
  have c2b0 : ((a0.size : Int) == 17) = true := beq_iff_eq.mpr c2
  have c2b1 : ((a0.size : Int) != 17) = false := bne_eq_false_iff_eq.mpr c2
  clear c2
  have H' := Aside0.mk H
  clear H
  go_enter Tryz.func10, Tryz.ntmps10
  go_wp2
  go_loopg [4, 5] k (fun kq v4 v5 w' => ∃ (x4_1 : ByteArray) (x5_1 : Int), v4 = .string x4_1 ∧ v5 = .int .i64 x5_1 ∧ Aside0 (gangwayref02_ReadMac.l0 kq a0 x4_1 x5_1 = some (r1, r2)) ∧ Aside0 (kq ≤ k) ∧ Aside0 (Below w.heap.size w w'))
  case atStart => exact ⟨((⟨#[]⟩ : ByteArray)), (0), q8z4, q8z4, H', ⟨Nat.le_refl _⟩, ⟨qpag⟩⟩
  case round =>
   clear H'
   try clear c1
   try clear c2
   try clear c2b0
   try clear c2b1
   try clear p2
   obtain ⟨x4_1, x5_1, rfl, rfl, HA, HK1, HB⟩ := hrel
   cases gk with
   | zero => exact absurd HA.out (by simp [gangwayref02_ReadMac.l0])
   | succ k1 =>
    have H := HA.out
    clear HA
    simp only [gangwayref02_ReadMac.l0] at H
    by_cases c3 : x5_1 < 17
    ·rw [if_pos c3] at H
     have c3b0 : decide (x5_1 < 17) = true := decide_eq_true c3
     clear c3
     by_cases c4 : 0 ≤ x5_1
     ·rw [if_pos c4] at H
      have c4b0 := eq_true c4
      have c4b1 : decide (0 ≤ x5_1) = true := decide_eq_true c4
      clear c4
      by_cases c5 : x5_1 ≤ (wrap64 (x5_1 + 2))
      ·rw [if_pos c5] at H
       have c5b0 := eq_true c5
       have c5b1 : decide (x5_1 ≤ (wrap64 (x5_1 + 2))) = true := decide_eq_true c5
       by_cases c6 : (wrap64 (x5_1 + 2)) ≤ (a0.size : Int)
       ·rw [if_pos c6] at H
        have c6b0 := eq_true c6
        have c6b1 : decide ((wrap64 (x5_1 + 2)) ≤ (a0.size : Int)) = true := decide_eq_true c6
        replace H := Option.bind_eq_some_iff.mp H
        obtain ⟨⟨t132, t133⟩, A70, H⟩ := H
        try dsimp only at H
        have A7 := Aside0.mk A70
        clear A70
        by_cases c8 : t133 = 0
        ·rw [if_pos c8] at H
         have c8b0 : (t133 == 0) = true := beq_iff_eq.mpr c8
         have c8b1 : (t133 != 0) = false := bne_eq_false_iff_eq.mpr c8
         clear c8
         by_cases c9 : x5_1 > 0
         ·rw [if_pos c9] at H
          have c9b0 : decide (0 < x5_1) = true := decide_eq_true c9
          clear c9
          obtain ⟨ji10, hji10⟩ : ∃ j_ : Int, (wrap64 (x5_1 - 1)) = j_ := ⟨_, rfl⟩
          replace H : (if 0 ≤ (ji10) then (if (ji10) < (a0.size : Int) then (if (bt a0 (ji10)) = 58 then (if x4_1.size + t132.size ≤ 9223372036854775807 then (gangwayref02_ReadMac.l0 k1 a0 (x4_1 ++ t132) (wrap64 (x5_1 + 3))) else (none)) else (some (0, 20))) else (none)) else (none)) = some (r1, r2) := by first | (rw [hji10] at H; exact H) | (simp only [hji10] at H ⊢; exact H)
          (try rw [hji10] at A7)
          have hji10w : (IntKind.i64.wrap (x5_1 - 1)) = ji10 := (i64_w _).trans hji10
          by_cases c11 : 0 ≤ (ji10)
          ·rw [if_pos c11] at H
           have c11b0 : decide (0 ≤ (ji10)) = true := decide_eq_true c11
           clear c11
           by_cases c12 : (ji10) < (a0.size : Int)
           ·rw [if_pos c12] at H
            have c12b0 : decide ((ji10) < (a0.size : Int)) = true := decide_eq_true c12
            clear c12
            by_cases c14 : (bt a0 (ji10)) = 58
            ·rw [if_pos c14] at H
             have c14b0 : ((bt a0 (ji10)) == 58) = true := beq_iff_eq.mpr c14
             have c14b1 : ((bt a0 (ji10)) != 58) = false := bne_eq_false_iff_eq.mpr c14
             clear c14
             by_cases c15 : x4_1.size + t132.size ≤ 9223372036854775807
             ·rw [if_pos c15] at H
              have c15b0 := eq_true c15
              have c15b1 : decide (x4_1.size + t132.size ≤ 9223372036854775807) = true := decide_eq_true c15
              try have c15b2 : (9223372036854775807 < x4_1.size + t132.size) = False := eq_false (Nat.not_lt.2 c15)
              have H' := Aside0.mk H
              clear H
              go_wp2_with (first | ((with_reducible refine gate_callee (f := 33) rfl ?_); refine goesL_ (some 21) rfl rfl Tryz.func33 qg3m rfl #[.string (a0.extract (x5_1 : Int).toNat ((wrap64 (x5_1 + 2)) : Int).toNat)] rfl qraq ?_; (with_reducible refine (gangwayref01_Unhex.calls k1 (a0.extract (x5_1 : Int).toNat ((wrap64 (x5_1 + 2)) : Int).toNat) t132 t133 _ A7.out).mono ?_); rintro e w16 ⟨rfl, hb⟩; refine ⟨_, rfl, ?_⟩; replace HB := Aside0.mk (below_step qpag hb); (try clear hb); (try clear hb2); (try clear hk); (try clear hi); have p13 : 0 ≤ ((ji10) : Int) := of_decide_eq_true qlss; have q13 : (ji10) < (a0.size : Int) := of_decide_eq_true qlss; have hx13 := bt_at a0 (ji10); replace p13 := eq_true p13; replace q13 := eq_true q13))
              go_roundg k1
              case measure => have := HK1.out; omega
              case rel => exact ⟨(x4_1 ++ t132), (wrap64 (x5_1 + 3)), q8z4, q8z4, H', ⟨qi8h⟩, ⟨qpag⟩⟩
             ·rw [if_neg c15] at H
              exact absurd H q6hr
            ·rw [if_neg c14] at H
             have c14b0 : ((bt a0 (ji10)) == 58) = false := beq_eq_false_iff_ne.mpr c14
             have c14b1 : ((bt a0 (ji10)) != 58) = true := bne_iff_ne.mpr c14
             simp only [Option.some.injEq, Prod.mk.injEq] at H
             obtain ⟨rfl, rfl⟩ := H
             go_wp2_with (first | ((with_reducible refine gate_callee (f := 33) rfl ?_); refine goesL_ (some 21) rfl rfl Tryz.func33 qg3m rfl #[.string (a0.extract (x5_1 : Int).toNat ((wrap64 (x5_1 + 2)) : Int).toNat)] rfl qraq ?_; (with_reducible refine (gangwayref01_Unhex.calls k1 (a0.extract (x5_1 : Int).toNat ((wrap64 (x5_1 + 2)) : Int).toNat) t132 t133 _ A7.out).mono ?_); rintro e w17 ⟨rfl, hb⟩; refine ⟨_, rfl, ?_⟩; replace HB := Aside0.mk (below_step qpag hb); (try clear hb); (try clear hb2); (try clear hk); (try clear hi); have p13 : 0 ≤ ((ji10) : Int) := of_decide_eq_true qlss; have q13 : (ji10) < (a0.size : Int) := of_decide_eq_true qlss; have hx13 := bt_at a0 (ji10); replace p13 := eq_true p13; replace q13 := eq_true q13))
             go_ret2
             exact ⟨(by first | rfl | (simp [errW_none, errW_some] <;> rfl) | (simp only [← hji10]; first | rfl | (simp [errW_none, errW_some] <;> rfl)) | (simp [*, errW_none, errW_some] <;> rfl) | (simp [*, IntKind.wrap_u32]; done) | (simp_all [IntKind.wrap_u32]; done)), qpag⟩
           ·rw [if_neg c12] at H
            exact absurd H q6hr
          ·rw [if_neg c11] at H
           exact absurd H q6hr
         ·rw [if_neg c9] at H
          have c9b0 : decide (0 < x5_1) = false := decide_eq_false c9
          clear c9
          by_cases c18 : x4_1.size + t132.size ≤ 9223372036854775807
          ·rw [if_pos c18] at H
           have c18b0 := eq_true c18
           have c18b1 : decide (x4_1.size + t132.size ≤ 9223372036854775807) = true := decide_eq_true c18
           try have c18b2 : (9223372036854775807 < x4_1.size + t132.size) = False := eq_false (Nat.not_lt.2 c18)
           have H' := Aside0.mk H
           clear H
           go_wp2_with (first | ((with_reducible refine gate_callee (f := 33) rfl ?_); refine goesL_ (some 21) rfl rfl Tryz.func33 qg3m rfl #[.string (a0.extract (x5_1 : Int).toNat ((wrap64 (x5_1 + 2)) : Int).toNat)] rfl qraq ?_; (with_reducible refine (gangwayref01_Unhex.calls k1 (a0.extract (x5_1 : Int).toNat ((wrap64 (x5_1 + 2)) : Int).toNat) t132 t133 _ A7.out).mono ?_); rintro e w19 ⟨rfl, hb⟩; refine ⟨_, rfl, ?_⟩; replace HB := Aside0.mk (below_step qpag hb); (try clear hb); (try clear hb2); (try clear hk); (try clear hi)))
           go_roundg k1
           case measure => have := HK1.out; omega
           case rel => exact ⟨(x4_1 ++ t132), (wrap64 (x5_1 + 3)), q8z4, q8z4, H', ⟨qi8h⟩, ⟨qpag⟩⟩
          ·rw [if_neg c18] at H
           exact absurd H q6hr
        ·rw [if_neg c8] at H
         have c8b0 : (t133 == 0) = false := beq_eq_false_iff_ne.mpr c8
         have c8b1 : (t133 != 0) = true := bne_iff_ne.mpr c8
         simp only [Option.some.injEq, Prod.mk.injEq] at H
         obtain ⟨rfl, rfl⟩ := H
         go_wp2_with (first | ((with_reducible refine gate_callee (f := 33) rfl ?_); refine goesL_ (some 21) rfl rfl Tryz.func33 qg3m rfl #[.string (a0.extract (x5_1 : Int).toNat ((wrap64 (x5_1 + 2)) : Int).toNat)] rfl qraq ?_; (with_reducible refine (gangwayref01_Unhex.calls k1 (a0.extract (x5_1 : Int).toNat ((wrap64 (x5_1 + 2)) : Int).toNat) t132 t133 _ A7.out).mono ?_); rintro e w20 ⟨rfl, hb⟩; refine ⟨_, rfl, ?_⟩; replace HB := Aside0.mk (below_step qpag hb); (try clear hb); (try clear hb2); (try clear hk); (try clear hi)))
         go_ret2
         exact ⟨qxu5, qpag⟩
       ·rw [if_neg c6] at H
        exact absurd H q6hr
      ·rw [if_neg c5] at H
       exact absurd H q6hr
     ·rw [if_neg c4] at H
      exact absurd H q6hr
    ·rw [if_neg c3] at H
     have c3b0 : decide (x5_1 < 17) = false := decide_eq_false c3
     clear c3
     replace H := Option.bind_eq_some_iff.mp H
     obtain ⟨t134, A210, H⟩ := H
     try dsimp only at H
     have A21 := Aside0.mk A210
     clear A210
     simp only [Option.some.injEq, Prod.mk.injEq] at H
     obtain ⟨rfl, rfl⟩ := H
     go_wp2_with (first | ((with_reducible refine gate_callee (f := 34) rfl ?_); refine goesL_ (some 41) rfl rfl Tryz.func34 qg3m rfl #[.string x4_1] rfl qraq ?_; (with_reducible refine (gangwayref01_Num.calls k1 x4_1 t134 _ A21.out).mono ?_); rintro e w' ⟨rfl, ⟨nd, rfl⟩⟩; refine ⟨_, rfl, ?_⟩))
     go_ret2
     exact ⟨qxu5, qpag⟩
 ·rw [if_neg c2] at H
  have c2b0 : ((a0.size : Int) == 17) = false := beq_eq_false_iff_ne.mpr c2
  have c2b1 : ((a0.size : Int) != 17) = true := bne_iff_ne.mpr c2
  simp only [Option.some.injEq, Prod.mk.injEq] at H
  obtain ⟨rfl, rfl⟩ := H
  go_enter Tryz.func10, Tryz.ntmps10
  go_wp2
  go_ret2
  exact ⟨qxu5, qpag⟩

/-! ### strconv_Itoa: function 42, by hand -/
-- IMPORT Derived.Test.YtgdjekigkimhnaaGreatDoorLaid
-- IMPORT Derived.Test.YtgdjekigkimhnaaGreatDoorShelf
-- IMPORT Derived.Lib.AppendIntMem
def strconv_Itoa.f (a0 : Int) : Option ByteArray := if 0 ≤ a0 ∧ a0 ≤ 1000000 then some ⟨(Lib.decDigits a0.toNat).toArray⟩ else none
theorem strconv_Itoa.calls (a0 : Int) (r : ByteArray) (w : World) (hL : Laid w) (h : strconv_Itoa.f a0 = some r) :
  Calls Tryz.prog 42 #[.int .i64 a0] w fun e w' => e = .returned (.string r) ∧ Below w.heap.size w w' := by
 unfold strconv_Itoa.f at h
 split at h
 ·rename_i hc
  obtain ⟨h0, h1⟩ := hc
  obtain rfl := Option.some.inj h
  refine (Tryz.strconv_Itoa a0 q1jy q1jy w hL.tab).mono ?_
  rintro e w' ⟨rfl, k, os, rfl⟩
  refine ⟨?_, ?_⟩
  ·unfold Lib.itoa
   rw [if_neg q1jy]
  ·exact Lib.below_grow _ w (Nat.le_refl _) k os
 ·cases h

end Go.Proofs.YtgdjekigkimhnaaGreatDoor.P
namespace Go.Proofs.YtgdjekigkimhnaaGreatDoor.P
open Go.RowKit Go.Proofs.YtgdjekigkimhnaaGreatDoorW.PrintWords Go.Proofs.YtgdjekigkimhnaaGreatDoorW.PrintLast Go.Proofs.YtgdjekigkimhnaaGreatDoorW.PrintMore
attribute [local go_sem] max2_int min2_int max_two min_two max_three min_three max_four min_four   -- for this text's walks alone
set_option linter.unusedVariables false
set_option linter.unusedSimpArgs false

/-! ### octets_Unhex: function 30, by hand -/
-- CALLS strings.IndexByte
-- IMPORT Derived.Test.YtgdjekigkimhnaaGreatDoorShelf
-- IMPORT Derived.Deep.QuietTactic
-- IMPORT Derived.BigQuiet
def digits_ : List UInt8 := [48, 49, 50, 51, 52, 53, 54, 55, 56, 57, 97, 98, 99, 100, 101, 102]
/-- Two digits' byte, behind bytes. -/
def unhexA : List UInt8 → List Int → Option (List Int)
 | a :: b :: r, l => if Lib.indexByte digits_ a < 0 then none else if Lib.indexByte digits_ b < 0 then none else unhexA r (l ++ [Go.bits .or .i64 (wrap64 (Lib.indexByte digits_ a * 16)) (Lib.indexByte digits_ b) % 256])
 | _, l => some l
theorem ib_calls (c : UInt8) (i : Int) (h : Lib.indexByte digits_ c = i) (w : World) :
  Calls Tryz.prog 46 #[.string ⟨#[48, 49, 50, 51, 52, 53, 54, 55, 56, 57, 97, 98, 99, 100, 101, 102]⟩, .int .u8 (c.toNat : Int)] w fun e w' => e = .returned (.int .i64 i) ∧ w' = w := by
 refine (Tryz.strings_IndexByte _ _ w).mono ?_
 rintro e w' ⟨rfl, rfl⟩
 refine ⟨?_, rfl⟩
 rw [← h]
 have e1 : (c.toNat : Int).toNat.toUInt8 = c := by
  rw [Int.toNat_natCast]
  exact UInt8.ofNat_toNat
 rw [e1]
 rfl
theorem drop_pair {l : List UInt8} {i : Nat} (h : i + 1 < l.length) : l.drop i = l[i] :: l[i + 1] :: l.drop (i + 2) := by
 rw [List.drop_eq_getElem_cons q1jy, List.drop_eq_getElem_cons h]
def unhexR : Option (List Int) → ByteArray × Int
 | some l => (strOfNums l, 0)
 | none => (⟨#[]⟩, 11)
def octets_Unhex.f (a0 : ByteArray) : Option (ByteArray × Int) := if a0.size ≤ 1099511627776 then (if a0.size % 2 = 0 then some (unhexR (unhexA a0.data.toList [])) else some (⟨#[]⟩, 11)) else none
theorem z5_0 {p : Prop} (h : p := by
 go_enter Tryz.func48, Tryz.ntmps48
 go_wp2
 go_ret2
 exact ⟨rfl, ⟨0, rfl⟩⟩) : p := h
theorem z5_1 {p : Prop} (h : p := by
 go_wp2
 go_quiet ((first | (go_at_call 46; exact Calls.quiet_of_same (ib_calls _ ia HIA.out _)) | (go_at_call 46; exact Calls.quiet_of_same (ib_calls _ ib HIB.out _))))
 go_wp2
 go_ret2
 exact ⟨rfl, pw_below_drewN HB.out _⟩) : p := h
theorem z5_2 {p : Prop} (h : p := by
 obtain ⟨rfl, rfl⟩ := Prod.mk.inj (Option.some.inj h)
 rw [errW_at _ _ qomw qomw]
 clear h
 exact z5_0) : p := h
set_option maxHeartbeats 4000000 in
set_option maxRecDepth 100000 in
theorem octets_Unhex.calls (a0 : ByteArray) (r1 : ByteArray) (r2 : Int) (w : World) (h : octets_Unhex.f a0 = some (r1, r2)) :
  Calls Tryz.prog 30 #[.string a0] w fun e w' => e = .returned (.tuple #[.string r1, .int .i64 r2]) ∧ Below w.heap.size w w' := by
 unfold octets_Unhex.f at h
 by_cases hs : a0.size ≤ 1099511627776
 ·rw [if_pos hs] at h
  by_cases he : a0.size % 2 = 0
  ·rw [if_pos he] at h
   have HR := Aside0.mk (Option.some.inj h)
   clear h
   obtain ⟨N, hN⟩ : ∃ N, a0.size = 2 * N := ⟨a0.size / 2, q1jy⟩
   obtain ⟨i0, hi, hz0, hz1, hz2⟩ := info_parts Tryz.Builder_Extra_169.infoByte
   obtain ⟨wm, hrun, hown, hgrow⟩ := run_make_own (P := Tryz.prog) w w.heap.size 62 5 i0 (.int .u8 0) 1 Tryz.underlying62 hi hz0 hz1 .i64 .i64 N (by rw [hz2]; omega) (by unfold maxLen; omega) (Nat.le_refl _)
   have HN := Aside0.mk hN
   have HO := Aside0.mk hown
   have HG := Aside0.mk (show Below w.heap.size w wm from (Below.refl _ _).grown hgrow (Nat.le_refl _) (fun k hk => by cases hk))
   have m2 : ((a0.size : Int) % 2 != 0) = false := bne_eq_false_iff_eq.mpr q1jy
   have d2 : (a0.size : Int) / 2 = (N : Int) := by omega
   rw [← d2] at hrun
   clear hN hown hgrow he d2
   go_enter Tryz.func30, Tryz.ntmps30
   go_wp2
   go_loopg [4, 5] N (fun kq v4 v5 w' => ∃ (i : Nat) (l : List Int), v5 = .int .i64 (i : Int) ∧ Aside0 (i + 2 * kq = a0.size) ∧ Aside0 (unhexR (unhexA (a0.data.toList.drop i) l) = (r1, r2)) ∧ Aside0 (l.length + kq = N) ∧ Aside0 (w'.ownsRow w.heap.size 5 1 v4 l.length (nums .u8 l)) ∧ Aside0 (Below w.heap.size w w'))
   case atStart => exact ⟨0, [], rfl, ⟨(by have := HN.out; omega)⟩, HR, ⟨q6hr⟩, HO, HG⟩
   case round =>
    clear hrun HO HG HR
    obtain ⟨i, l, rfl, HI, HU, HL, HO, HB⟩ := hrel
    by_cases hi2 : i < a0.size
    ·have hi3 : i + 1 < a0.size := by have := HI.out; omega
     have b10 : decide ((i : Int) < (a0.size : Int)) = true := decide_eq_true q1jy
     have b11 : decide (i < a0.size) = true := decide_eq_true hi2
     have p1 := eq_true (show (0 : Int) ≤ (i : Int) by omega)
     have p2 := eq_true (show (i : Int) < (a0.size : Int) by omega)
     have p3 := eq_true (show (0 : Int) ≤ (i : Int) + 1 by omega)
     have p4 := eq_true (show (i : Int) + 1 < (a0.size : Int) by omega)
     have e1 : IntKind.i64.wrap ((i : Int) + 1) = (i : Int) + 1 := by rw [IntKind.wrap_i64]; omega
     have e2 : ((i : Int) + 1).toNat = i + 1 := by omega
     obtain ⟨m, rfl⟩ : ∃ m, gk = m + 1 := ⟨gk - 1, (by have := HI.out; omega)⟩
     have hu := HU.out
     rw [drop_pair (by rw [Array.length_toList]; exact hi3)] at hu
     simp only [unhexA] at hu
     have g1 : a0.data.toList[i]'(by rw [Array.length_toList]; exact hi2) = a0[i] := rfl
     have g2 : a0.data.toList[i + 1]'(by rw [Array.length_toList]; exact hi3) = a0[i + 1] := rfl
     rw [g1, g2] at hu
     obtain ⟨ia, hia⟩ : ∃ ia, Lib.indexByte digits_ a0[i] = ia := ⟨_, rfl⟩
     obtain ⟨ib, hib⟩ : ∃ ib, Lib.indexByte digits_ a0[i + 1] = ib := ⟨_, rfl⟩
     rw [hia, hib] at hu
     have HIA := Aside0.mk hia
     have HIB := Aside0.mk hib
     clear hia hib g1 g2 HU
     by_cases ha : ia < 0
     ·rw [if_pos ha] at hu
      obtain ⟨rfl, rfl⟩ := Prod.mk.inj hu
      clear hu
      have ba : decide (ia < 0) = true := decide_eq_true ha
      exact z5_1
     ·rw [if_neg ha] at hu
      have ba : decide (ia < 0) = false := decide_eq_false ha
      by_cases hb : ib < 0
      ·rw [if_pos hb] at hu
       obtain ⟨rfl, rfl⟩ := Prod.mk.inj hu
       clear hu
       have bb : decide (ib < 0) = true := decide_eq_true hb
       clear ha
       exact z5_1
      ·rw [if_neg hb] at hu
       have bb : decide (ib < 0) = false := decide_eq_false hb
       clear ha hb
       have HU := Aside0.mk hu
       clear hu
       go_wp2
       go_quiet ((first | (go_at_call 46; exact Calls.quiet_of_same (ib_calls _ ia HIA.out _)) | (go_at_call 46; exact Calls.quiet_of_same (ib_calls _ ib HIB.out _))))
       have HL9 := Aside0.mk (show l.length + 1 ≤ 1099511627776 by have := HL.out; have := HN.out; omega)
       have HZ := Aside0.mk HB.out.size
       go_wp2_with (at_builtin; refine wpList_append_own _ rfl _ _ 62 rfl w.heap.size 5 i0 (.int .u8 0) 1 1 Tryz.underlying62 hi hz0 hz1 hz2 rfl qomw _ _ _ rfl (own_alloc (pw_own_drewN HO.out _) _) ⟨wr.heap.size, 0, none⟩ 1 1 [.int .u8 (Go.bits .or .i64 (wrap64 (ia * 16)) ib % 256)] rfl rfl ?c1 ?c2 ?c3 ?c4 ?c5 ?_)
       case c1 =>
        intro j u hj
        match j, hj with
        | 0, hj => simp at hj; subst hj; simp only [Addr.add, Nat.add_zero]; exact (blk_cell (blk_new (wr.drewN nq) _) 0).trans rfl
       case c2 => intro u hu; simp at hu; subst hu; rfl
       case c3 => have := HL9.out; unfold maxLen; omega
       case c4 => have := HL9.out; omega
       case c5 => have := HZ.out; simp; omega
       intro v' w1 hown' hgrow _
       have HO1 := Aside0.mk hown'
       have HB1 := Aside0.mk ((below_alloc (pw_below_drewN HB.out nq) (.cells #[.int .u8 (Go.bits .or .i64 (wrap64 (ia * 16)) ib % 256)] 5)).grown hgrow (by have := HZ.out; simp; omega) (fun k hk => (HO.out.lt k hk).1))
       clear hown' hgrow
       go_wp2
       go_roundg m
       case measure => omega
       case rel =>
        refine ⟨i + 2, l ++ [Go.bits .or .i64 (wrap64 (ia * 16)) ib % 256], q6hr, ⟨(by have := HI.out; omega)⟩, HU, ⟨(by have := HL.out; rw [List.length_append, List.length_singleton]; omega)⟩, ⟨?_⟩, HB1⟩
        have := HO1.out
        rw [List.length_append, List.length_singleton]
        unfold nums at this ⊢
        rw [List.map_append]
        exact this
    ·have hI : i = a0.size := by have := HI.out; omega
     have b10 : decide ((i : Int) < (a0.size : Int)) = false := decide_eq_false q1jy
     have b11 : decide (i < a0.size) = false := decide_eq_false hi2
     have hu := HU.out
     rw [List.drop_of_length_le (by rw [Array.length_toList]; exact Nat.not_lt.1 hi2)] at hu
     simp only [unhexA, unhexR] at hu
     obtain ⟨rfl, rfl⟩ := Prod.mk.inj hu
     clear hu HU hI hi2
     have hcv := own_string (P := Tryz.prog) Tryz.underlying62 Tryz.underlying5 Tryz.underlying9 HO.out
     go_wp2
     go_ret2
     exact ⟨rfl, HB.out⟩
  ·rw [if_neg he] at h
   obtain ⟨rfl, rfl⟩ := Prod.mk.inj (Option.some.inj h)
   clear h
   have m2 : ((a0.size : Int) % 2 != 0) = true := bne_iff_ne.mpr q1jy
   clear he
   go_enter Tryz.func30, Tryz.ntmps30
   go_wp2
   go_ret2
   exact ⟨rfl, Below.refl _ _⟩
 ·rw [if_neg hs] at h
  cases h
/-! ### strings_ReplaceAll: function 31, by hand -/
-- IMPORT Derived.Test.YtgdjekigkimhnaaGreatDoorLaid
-- IMPORT Derived.Test.YtgdjekigkimhnaaGreatDoorShelf
def strings_ReplaceAll.f (a0 a1 a2 : ByteArray) : Option ByteArray :=
 if a0.size ≤ 1000000 ∧ 1 ≤ a1.size ∧ a2.size = 0 then some ⟨(Lib.replaceAll a0.data.toList a1.data.toList a2.data.toList).toArray⟩ else none
theorem strings_ReplaceAll.calls (a0 a1 a2 : ByteArray) (r : ByteArray) (w : World) (hL : Laid w) (h : strings_ReplaceAll.f a0 a1 a2 = some r) :
  Calls Tryz.prog 31 #[.string a0, .string a1, .string a2] w fun e w' => e = .returned (.string r) ∧ Below w.heap.size w w' := by
 unfold strings_ReplaceAll.f at h
 split at h
 ·rename_i hc
  obtain ⟨h0, h1, h2⟩ := hc
  obtain rfl := Option.some.inj h
  obtain ⟨m, hm⟩ := hL.ml
  exact Tryz.strings_ReplaceAll a0 a1 a2 m w q1jy hm h1 (by rw [h2]; omega)
 ·cases h
/-! ### octets_part: function 48, by hand -/
def octets_part.f (a0 : ByteArray) (a1 : Int) (a2 : Int) : Option (ByteArray × Option Int) :=
 if a0.size ≤ 1099511627776 then (
 if a1 < 0 then some (⟨#[]⟩, some (a1 * 64 + 1)) else if a2 < 0 then some (⟨#[]⟩, some (a1 * 64 + 1)) else
 if (a0.size : Int) < a1 then some (⟨#[]⟩, some (a1 * 64 + 10)) else if (a0.size : Int) - a1 < a2 then some (⟨#[]⟩, some (a1 * 64 + 10)) else
 some (a0.extract a1.toNat (a1 + a2).toNat, none)) else none
theorem errW_at (p c : Int) (h0 : 0 ≤ c) (h1 : c < 64) : errW (some (p * 64 + c)) = .iface 81 (.agg #[.int .i64 p, .iface 24 (.int .i64 c)]) := by
 rw [errW_some, show (p * 64 + c) / 64 = p by omega, show (p * 64 + c) % 64 = c by omega]
set_option maxHeartbeats 4000000 in
theorem octets_part.calls (a0 : ByteArray) (a1 : Int) (a2 : Int) (r1 : ByteArray) (r2 : Option Int) (w : World) (h : octets_part.f a0 a1 a2 = some (r1, r2)) :
  Calls Tryz.prog 48 #[.string a0, .int .i64 a1, .int .i64 a2] w fun e w' => e = .returned (.tuple #[.string r1, errW r2]) ∧ Drawn0 w w' := by
 unfold octets_part.f at h
 by_cases h5 : a0.size ≤ 1099511627776
 ·rw [if_pos h5] at h
  by_cases h1 : a1 < 0
  ·rw [if_pos h1] at h
   exact z5_2
  ·rw [if_neg h1] at h
   by_cases h2 : a2 < 0
   ·rw [if_pos h2] at h
    exact z5_2
   ·rw [if_neg h2] at h
    obtain ⟨i, rfl⟩ := Int.eq_ofNat_of_zero_le (show 0 ≤ a1 by omega)
    obtain ⟨n, rfl⟩ := Int.eq_ofNat_of_zero_le (show 0 ≤ a2 by omega)
    by_cases h3 : (a0.size : Int) < (i : Int)
    ·rw [if_pos h3] at h
     obtain ⟨rfl, rfl⟩ := Prod.mk.inj (Option.some.inj h)
     rw [errW_at _ _ qomw qomw]
     clear h
     have h7 : a0.size < i := by omega
     have b3 : decide (a0.size < i) = true := decide_eq_true h7
     have b4 : decide ((a0.size : Int) < (i : Int)) = true := decide_eq_true h3
     exact z5_0
    ·rw [if_neg h3] at h
     have h7 : ¬ a0.size < i := by omega
     have b3 : decide (a0.size < i) = false := decide_eq_false h7
     by_cases h4 : (a0.size : Int) - (i : Int) < (n : Int)
     ·rw [if_pos h4] at h
      obtain ⟨rfl, rfl⟩ := Prod.mk.inj (Option.some.inj h)
      rw [errW_at _ _ qomw qomw]
      clear h
      have b4 : decide ((a0.size : Int) - (i : Int) < (n : Int)) = true := decide_eq_true h4
      exact z5_0
     ·rw [if_neg h4] at h
      obtain ⟨rfl, rfl⟩ := Prod.mk.inj (Option.some.inj h)
      rw [errW_none]
      clear h
      rw [Int.toNat_natCast, show ((i : Int) + (n : Int)).toNat = i + n by omega]
      have h6 : i + n ≤ a0.size := by omega
      clear h3
      have b4 : decide ((a0.size : Int) - (i : Int) < (n : Int)) = false := decide_eq_false h4
      have c1 := eq_true (show (0 : Int) ≤ (i : Int) by omega)
      have c2 := eq_true (show (i : Int) ≤ (i : Int) + (n : Int) by omega)
      have c3 := eq_true (show (i : Int) + (n : Int) ≤ (a0.size : Int) by omega)
      have c4 : ((i : Int) + (n : Int)).toNat = i + n := by omega
      exact z5_0
 ·rw [if_neg h5] at h
  cases h
end Go.Proofs.YtgdjekigkimhnaaGreatDoor.P
