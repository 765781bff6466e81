-- slim
-- Written by wip/hprint.py (this session's program) through the kit's print program; hand contracts are marked 'by hand'.
import Derived.Test.YtgdjekigkimhnaaGreatDoorAbb
import Derived.Test.YtgdjekigkimhnaaGreatDoorPx0
import Derived.Test.YtgdjekigkimhnaaGreatDoorPx14
namespace Go.Proofs.YtgdjekigkimhnaaGreatDoor.P
open Go.RowKit Go.Proofs.YtgdjekigkimhnaaGreatDoorW.PrintWords Go.Proofs.YtgdjekigkimhnaaGreatDoorW.PrintLast Go.Proofs.YtgdjekigkimhnaaGreatDoorW.PrintMore
attribute [local go_sem] max2_int min2_int max_two min_two max_three min_three max_four min_four   -- for this text's walks alone
set_option linter.unusedVariables false
set_option linter.unusedSimpArgs false

theorem q747 {p : Prop} (h : p := by have := HK1.out; have := HJ1.out; have := HJ4.out; omega) : p := h
/-! ### gangwayref02_ReadIp: function 12 -/
mutual
def gangwayref02_ReadIp.l0 : Nat → ByteArray → Int → Int → Int → Int → Option (Int × Int)
 | 0, _, _, _, _, _ => none
 | k + 1, x0, x4, x5, x6, x7 => if x7 ≤ (x0.size : Int) then (gangwayref02_ReadIp.j1 k x0 x4 x5 x6 x7 (decide ((x0.size : Int) ≤ 15))) else (gangwayref02_ReadIp.j1 k x0 x4 x5 x6 x7 false)
def gangwayref02_ReadIp.j1 : Nat → ByteArray → Int → Int → Int → Int → Bool → Option (Int × Int)
 | 0, _, _, _, _, _, _ => none
 | k + 1, x0, x4, x5, x6, x7, x16 => if x16 = true then (if x7 < (x0.size : Int) then (if 0 ≤ x7 then (if (bt x0 x7) ≥ 48 then (gangwayref02_ReadIp.j2 k x0 x4 x5 x6 x7 (decide ((bt x0 x7) ≤ 57))) else (gangwayref02_ReadIp.j2 k x0 x4 x5 x6 x7 false)) else (none)) else (gangwayref02_ReadIp.j2 k x0 x4 x5 x6 x7 false)) else (if x6 = 4 then ((gangwayref02_Ip.f k x4).bind fun t155 => (if t155.toList = x0.toList then (some (x4, 0)) else (some (0, 20)))) else (some (0, 20)))
def gangwayref02_ReadIp.j2 : Nat → ByteArray → Int → Int → Int → Int → Bool → Option (Int × Int)
 | 0, _, _, _, _, _, _ => none
 | k + 1, x0, x4, x5, x6, x7, x34 => if x34 = true then (if 0 ≤ x7 then (if x7 < (x0.size : Int) then (gangwayref02_ReadIp.l0 k x0 x4 (mn (wrap64 ((wrap64 ((wrap64 (x5 * 10)) + (wrap64 (bt x0 x7)))) - 48)) 1000) x6 (wrap64 (x7 + 1))) else (none)) else (none)) else (if x7 = (x0.size : Int) then (gangwayref02_ReadIp.l0 k x0 ((((x4 * 256) % 4294967296) + ((Int.tmod x5 256) % 4294967296)) % 4294967296) 0 (wrap64 (x6 + 1)) (wrap64 (x7 + 1))) else (if 0 ≤ x7 then (if x7 < (x0.size : Int) then (if (bt x0 x7) = 46 then (gangwayref02_ReadIp.l0 k x0 ((((x4 * 256) % 4294967296) + ((Int.tmod x5 256) % 4294967296)) % 4294967296) 0 (wrap64 (x6 + 1)) (wrap64 (x7 + 1))) else (gangwayref02_ReadIp.l0 k x0 x4 x5 x6 (wrap64 (x7 + 1)))) else (none)) else (none)))
end
def gangwayref02_ReadIp.f (k : Nat) (a0 : ByteArray) : Option (Int × Int) := gangwayref02_ReadIp.l0 k a0 0 0 0 0
theorem gangwayref02_ReadIp.mono_l : ∀ k, (∀ y0 y1 y2 y3 y4, LeO (gangwayref02_ReadIp.l0 k y0 y1 y2 y3 y4) (gangwayref02_ReadIp.l0 (k + 1) y0 y1 y2 y3 y4)) ∧ (∀ y0 y1 y2 y3 y4 y5, LeO (gangwayref02_ReadIp.j1 k y0 y1 y2 y3 y4 y5) (gangwayref02_ReadIp.j1 (k + 1) y0 y1 y2 y3 y4 y5)) ∧ (∀ y0 y1 y2 y3 y4 y5, LeO (gangwayref02_ReadIp.j2 k y0 y1 y2 y3 y4 y5) (gangwayref02_ReadIp.j2 (k + 1) y0 y1 y2 y3 y4 y5))
 | 0 => ⟨fun _ _ _ _ _ r h => by simp [gangwayref02_ReadIp.l0] at h, fun _ _ _ _ _ _ r h => by simp [gangwayref02_ReadIp.j1] at h, fun _ _ _ _ _ _ r h => by simp [gangwayref02_ReadIp.j2] at h⟩
 | k + 1 => by
  obtain ⟨ih0, ih1, ih2⟩ := gangwayref02_ReadIp.mono_l k
  refine ⟨?_, ?_, ?_⟩
  ·intro y0 y1 y2 y3 y4
   unfold gangwayref02_ReadIp.l0
   repeat' first
   | (with_reducible exact ih0 _ _ _ _ _)
   | (with_reducible exact ih1 _ _ _ _ _ _)
   | (with_reducible exact ih2 _ _ _ _ _ _)
   | (with_reducible exact gangwayref02_Ip.mono _ _)
   | (with_reducible exact LeO.refl _)
   | (with_reducible exact LeO.none _)
   | (with_reducible refine LeO.ite ?_ ?_)
   | (with_reducible refine LeO.bind ?_ (fun _ => ?_))
   | exact ih0 _ _ _ _ _
   | exact ih1 _ _ _ _ _ _
   | exact ih2 _ _ _ _ _ _
   | exact gangwayref02_Ip.mono _ _
   | exact LeO.none _
   | refine LeO.ite ?_ ?_
   | refine LeO.bind ?_ (fun _ => ?_)
  ·intro y0 y1 y2 y3 y4 y5
   unfold gangwayref02_ReadIp.j1
   repeat' first
   | (with_reducible exact ih0 _ _ _ _ _)
   | (with_reducible exact ih1 _ _ _ _ _ _)
   | (with_reducible exact ih2 _ _ _ _ _ _)
   | (with_reducible exact gangwayref02_Ip.mono _ _)
   | (with_reducible exact LeO.refl _)
   | (with_reducible exact LeO.none _)
   | (with_reducible refine LeO.ite ?_ ?_)
   | (with_reducible refine LeO.bind ?_ (fun _ => ?_))
   | exact ih0 _ _ _ _ _
   | exact ih1 _ _ _ _ _ _
   | exact ih2 _ _ _ _ _ _
   | exact gangwayref02_Ip.mono _ _
   | exact LeO.none _
   | refine LeO.ite ?_ ?_
   | refine LeO.bind ?_ (fun _ => ?_)
  ·intro y0 y1 y2 y3 y4 y5
   unfold gangwayref02_ReadIp.j2
   repeat' first
   | (with_reducible exact ih0 _ _ _ _ _)
   | (with_reducible exact ih1 _ _ _ _ _ _)
   | (with_reducible exact ih2 _ _ _ _ _ _)
   | (with_reducible exact gangwayref02_Ip.mono _ _)
   | (with_reducible exact LeO.refl _)
   | (with_reducible exact LeO.none _)
   | (with_reducible refine LeO.ite ?_ ?_)
   | (with_reducible refine LeO.bind ?_ (fun _ => ?_))
   | exact ih0 _ _ _ _ _
   | exact ih1 _ _ _ _ _ _
   | exact ih2 _ _ _ _ _ _
   | exact gangwayref02_Ip.mono _ _
   | exact LeO.none _
   | refine LeO.ite ?_ ?_
   | refine LeO.bind ?_ (fun _ => ?_)
theorem gangwayref02_ReadIp.mono : ∀ a0 k, LeO (gangwayref02_ReadIp.f k a0) (gangwayref02_ReadIp.f (k + 1) a0) := by
 intro a0 k
 obtain ⟨ih0, ih1, ih2⟩ := gangwayref02_ReadIp.mono_l k
 unfold gangwayref02_ReadIp.f
 repeat' first
   | (with_reducible exact ih0 _ _ _ _ _)
   | (with_reducible exact ih1 _ _ _ _ _ _)
   | (with_reducible exact ih2 _ _ _ _ _ _)
   | (with_reducible exact gangwayref02_Ip.mono _ _)
   | (with_reducible exact LeO.refl _)
   | (with_reducible exact LeO.none _)
   | (with_reducible refine LeO.ite ?_ ?_)
   | (with_reducible refine LeO.bind ?_ (fun _ => ?_))
   | exact ih0 _ _ _ _ _
   | exact ih1 _ _ _ _ _ _
   | exact ih2 _ _ _ _ _ _
   | exact gangwayref02_Ip.mono _ _
   | exact LeO.none _
   | refine LeO.ite ?_ ?_
   | refine LeO.bind ?_ (fun _ => ?_)
theorem z15_0 {p : Prop} (h : p := by
 simp only [Option.some.injEq, Prod.mk.injEq] at H
 obtain ⟨rfl, rfl⟩ := H
 go_wp2_with (first | (go_at_call 17; (with_reducible refine (gangwayref02_Ip.calls kj1 x4_1 t155 _ A22.out).mono ?_); rintro e wz0 ⟨rfl, hb⟩; replace HB := Aside0.mk (below_step qpag hb); (try clear hb); (try clear hb2); (try clear hk); (try clear hi)))
 go_ret2
 exact ⟨qxu5, qpag⟩) : p := h
theorem z15_1 {p : Prop} (h : p := by
 go_wp2
 go_roundg kj4
 case measure => have := HK1.out; have := HJ1.out; have := HJ4.out; omega
 case rel => exact ⟨((((x4_1 * 256) % 4294967296) + ((Int.tmod x5_1 256) % 4294967296)) % 4294967296), (0), (wrap64 (x6_1 + 1)), (wrap64 (x7_1 + 1)), q8z4, q8z4, q8z4, q8z4, H', ⟨q747⟩, ⟨qpag⟩⟩) : p := h
theorem z15_2 {p : Prop} (h : p := by
 go_wp2
 go_meet
 case rel => exact ⟨_, (false), q8z4, H', ⟨(by have := HK1.out; have := HJ1.out; first | omega | exact Nat.le_refl _)⟩, ⟨qpag⟩⟩) : p := h
set_option maxHeartbeats 8000000 in
set_option maxRecDepth 100000 in
theorem gangwayref02_ReadIp.calls (k : Nat) (a0 : ByteArray) (r1 : Int) (r2 : Int) (w : World) (h : gangwayref02_ReadIp.f k a0 = some (r1, r2)) :
  Calls Tryz.prog 12 #[.string a0] w fun e w' => e = .returned (.tuple #[.int .u32 r1, .int .i64 r2]) ∧ Below w.heap.size w w' := by
 have HB := Aside0.mk (Below.refl w.heap.size w)
 have H := h
 unfold gangwayref02_ReadIp.f at H
 clear h
 have H' := Aside0.mk H
 clear H
 go_enter Tryz.func12, Tryz.ntmps12
 go_wp2
 go_loopg [4, 5, 6, 7] k (fun kq v4 v5 v6 v7 w' => ∃ (x4_1 : Int) (x5_1 : Int) (x6_1 : Int) (x7_1 : Int), v4 = .int .u32 x4_1 ∧ v5 = .int .i64 x5_1 ∧ v6 = .int .i64 x6_1 ∧ v7 = .int .i64 x7_1 ∧ Aside0 (gangwayref02_ReadIp.l0 kq a0 x4_1 x5_1 x6_1 x7_1 = some (r1, r2)) ∧ Aside0 (kq ≤ k) ∧ Aside0 (Below w.heap.size w w'))
 case atStart => exact ⟨(0), (0), (0), (0), q8z4, q8z4, q8z4, q8z4, H', ⟨Nat.le_refl _⟩, ⟨qpag⟩⟩
 case round =>
  clear H'
  try clear c1
  obtain ⟨x4_1, x5_1, x6_1, x7_1, rfl, rfl, rfl, rfl, HA, HK1, HB⟩ := hrel
  cases gk with
  | zero => exact absurd HA.out (by simp [gangwayref02_ReadIp.l0])
  | succ k1 =>
   have H := HA.out
   clear HA
   simp only [gangwayref02_ReadIp.l0] at H
   have HC2 := Aside0.mk H
   clear H
   go_upto_region 3 with (fail)
   go_cut [16] (fun v16 wc => ∃ (kq : Nat) (x16_1 : Bool), v16 = .bool x16_1 ∧ Aside0 (gangwayref02_ReadIp.j1 kq a0 x4_1 x5_1 x6_1 x7_1 x16_1 = some (r1, r2)) ∧ Aside0 (kq ≤ k1) ∧ Aside0 (Below w.heap.size w wc))
   case first =>
    have H := HC2.out
    clear HC2
    by_cases c3 : x7_1 ≤ (a0.size : Int)
    ·rw [if_pos c3] at H
     have c3b0 : decide (x7_1 ≤ (a0.size : Int)) = true := decide_eq_true c3
     clear c3
     (first | rw [c3b0] | (simp only [i64_w, i32_w]; rw [c3b0]) | skip)
     have H' := Aside0.mk H
     clear H
     go_wp2
     go_meet
     case rel => exact ⟨_, (decide ((a0.size : Int) ≤ 15)), q8z4, H', ⟨qq36⟩, ⟨qpag⟩⟩
    ·rw [if_neg c3] at H
     have c3b0 : decide (x7_1 ≤ (a0.size : Int)) = false := decide_eq_false c3
     clear c3
     (first | rw [c3b0] | (simp only [i64_w, i32_w]; rw [c3b0]) | skip)
     have H' := Aside0.mk H
     clear H
     go_wp2
     go_meet
     case rel => exact ⟨_, (false), q8z4, H', ⟨qq36⟩, ⟨qpag⟩⟩
   case rest =>
    clear HC2
    try clear c1
    try clear p2
    try clear c3
    try clear c3b0
    obtain ⟨kq, x16_1, rfl, HA, HJ1, HB⟩ := hcut
    cases kq with
    | zero => exact absurd HA.out (by simp [gangwayref02_ReadIp.j1])
    | succ kj1 =>
     have H := HA.out
     clear HA
     simp only [gangwayref02_ReadIp.j1] at H
     by_cases c4 : x16_1 = true
     ·subst c4
      rw [if_pos rfl] at H
      have HC5 := Aside0.mk H
      clear H
      go_upto_region 5 with (fail)
      go_cut [34] (fun v34 wc => ∃ (kq : Nat) (x34_4 : Bool), v34 = .bool x34_4 ∧ Aside0 (gangwayref02_ReadIp.j2 kq a0 x4_1 x5_1 x6_1 x7_1 x34_4 = some (r1, r2)) ∧ Aside0 (kq ≤ kj1) ∧ Aside0 (Below w.heap.size w wc))
      case first =>
       have H := HC5.out
       clear HC5
       by_cases c6 : x7_1 < (a0.size : Int)
       ·rw [if_pos c6] at H
        have c6b0 : decide (x7_1 < (a0.size : Int)) = true := decide_eq_true c6
        clear c6
        (first | rw [c6b0] | (simp only [i64_w, i32_w]; rw [c6b0]) | skip)
        by_cases c7 : 0 ≤ x7_1
        ·rw [if_pos c7] at H
         have c7b0 : decide (0 ≤ x7_1) = true := decide_eq_true c7
         clear c7
         by_cases c9 : (bt a0 x7_1) ≥ 48
         ·rw [if_pos c9] at H
          have c9b0 : decide (48 ≤ (bt a0 x7_1)) = true := decide_eq_true c9
          clear c9
          have H' := Aside0.mk H
          clear H
          have p8 : 0 ≤ (x7_1 : Int) := of_decide_eq_true qlss
          have q8 : x7_1 < (a0.size : Int) := of_decide_eq_true qlss
          have hx8 := bt_at a0 x7_1
          replace p8 := eq_true p8
          replace q8 := eq_true q8
          have p10 : 0 ≤ (x7_1 : Int) := of_decide_eq_true qlss
          have q10 : x7_1 < (a0.size : Int) := of_decide_eq_true qlss
          have hx10 := bt_at a0 x7_1
          replace p10 := eq_true p10
          replace q10 := eq_true q10
          go_wp2
          go_meet
          case rel => exact ⟨_, (decide ((bt a0 x7_1) ≤ 57)), q8z4, H', ⟨(by have := HK1.out; have := HJ1.out; first | omega | exact Nat.le_refl _)⟩, ⟨qpag⟩⟩
         ·rw [if_neg c9] at H
          have c9b0 : decide (48 ≤ (bt a0 x7_1)) = false := decide_eq_false c9
          clear c9
          have H' := Aside0.mk H
          clear H
          have p8 : 0 ≤ (x7_1 : Int) := of_decide_eq_true qlss
          have q8 : x7_1 < (a0.size : Int) := of_decide_eq_true qlss
          have hx8 := bt_at a0 x7_1
          replace p8 := eq_true p8
          replace q8 := eq_true q8
          exact z15_2
        ·rw [if_neg c7] at H
         exact absurd H q6hr
       ·rw [if_neg c6] at H
        have c6b0 : decide (x7_1 < (a0.size : Int)) = false := decide_eq_false c6
        clear c6
        (first | rw [c6b0] | (simp only [i64_w, i32_w]; rw [c6b0]) | skip)
        have H' := Aside0.mk H
        clear H
        exact z15_2
      case rest =>
       clear HC5
       try clear c1
       try clear p1
       try clear q1
       try clear hx1
       try clear p2
       try clear c3
       try clear c3b0
       try clear c4
       try clear c6
       try clear c6b0
       try clear c7
       try clear c7b0
       try clear p8
       try clear q8
       try clear hx8
       try clear c9
       try clear c9b0
       try clear p10
       try clear q10
       try clear hx10
       try clear p10
       try clear p2
       try clear p8
       try clear q10
       try clear q8
       obtain ⟨kq, x34_4, rfl, HA, HJ4, HB⟩ := hcut
       cases kq with
       | zero => exact absurd HA.out (by simp [gangwayref02_ReadIp.j2])
       | succ kj4 =>
        have H := HA.out
        clear HA
        simp only [gangwayref02_ReadIp.j2] at H
        by_cases c11 : x34_4 = true
        ·subst c11
         rw [if_pos rfl] at H
         by_cases c12 : 0 ≤ x7_1
         ·rw [if_pos c12] at H
          have c12b0 : decide (0 ≤ x7_1) = true := decide_eq_true c12
          clear c12
          by_cases c13 : x7_1 < (a0.size : Int)
          ·rw [if_pos c13] at H
           have c13b0 : decide (x7_1 < (a0.size : Int)) = true := decide_eq_true c13
           clear c13
           obtain ⟨ji15, hji15⟩ : ∃ j_ : Int, (mn (wrap64 ((wrap64 ((wrap64 (x5_1 * 10)) + (wrap64 (bt a0 x7_1)))) - 48)) 1000) = j_ := ⟨_, rfl⟩
           replace H : (gangwayref02_ReadIp.l0 kj4 a0 x4_1 ji15 x6_1 (wrap64 (x7_1 + 1))) = some (r1, r2) := by first | (rw [hji15] at H; exact H) | (simp only [hji15] at H ⊢; exact H)
           have hji15_ : (if 1000 < (wrap64 ((wrap64 ((wrap64 (x5_1 * 10)) + (wrap64 (bt a0 x7_1)))) - 48)) then 1000 else (wrap64 ((wrap64 ((wrap64 (x5_1 * 10)) + (wrap64 (bt a0 x7_1)))) - 48))) = ji15 := hji15
           have H' := Aside0.mk H
           clear H
           have p14 : 0 ≤ (x7_1 : Int) := of_decide_eq_true qlss
           have q14 : x7_1 < (a0.size : Int) := of_decide_eq_true qlss
           have hx14 := bt_at a0 x7_1
           replace p14 := eq_true p14
           replace q14 := eq_true q14
           go_wp2
           go_roundg kj4
           case measure => have := HK1.out; have := HJ1.out; have := HJ4.out; omega
           case rel => exact ⟨(x4_1), (ji15), (x6_1), (wrap64 (x7_1 + 1)), q8z4, (by first | rfl | (simp; done) | (simp only [← hji15] <;> (first | rfl | simp)) | (simp [*]; done)), q8z4, q8z4, H', ⟨q747⟩, ⟨qpag⟩⟩
          ·rw [if_neg c13] at H
           exact absurd H q6hr
         ·rw [if_neg c12] at H
          exact absurd H q6hr
        ·replace c11 := Bool.eq_false_iff.mpr c11
         subst c11
         rw [if_neg (show ¬ (false = true) by decide)] at H
         by_cases c16 : x7_1 = (a0.size : Int)
         ·rw [if_pos c16] at H
          have c16b0 : (x7_1 == (a0.size : Int)) = true := beq_iff_eq.mpr c16
          have c16b1 : (x7_1 != (a0.size : Int)) = false := bne_eq_false_iff_eq.mpr c16
          clear c16
          have H' := Aside0.mk H
          clear H
          exact z15_1
         ·rw [if_neg c16] at H
          have c16b0 : (x7_1 == (a0.size : Int)) = false := beq_eq_false_iff_ne.mpr c16
          have c16b1 : (x7_1 != (a0.size : Int)) = true := bne_iff_ne.mpr c16
          by_cases c17 : 0 ≤ x7_1
          ·rw [if_pos c17] at H
           have c17b0 : decide (0 ≤ x7_1) = true := decide_eq_true c17
           clear c17
           by_cases c18 : x7_1 < (a0.size : Int)
           ·rw [if_pos c18] at H
            have c18b0 : decide (x7_1 < (a0.size : Int)) = true := decide_eq_true c18
            clear c18
            by_cases c20 : (bt a0 x7_1) = 46
            ·rw [if_pos c20] at H
             have c20b0 : ((bt a0 x7_1) == 46) = true := beq_iff_eq.mpr c20
             have c20b1 : ((bt a0 x7_1) != 46) = false := bne_eq_false_iff_eq.mpr c20
             clear c20
             have H' := Aside0.mk H
             clear H
             have p19 : 0 ≤ (x7_1 : Int) := of_decide_eq_true qlss
             have q19 : x7_1 < (a0.size : Int) := of_decide_eq_true qlss
             have hx19 := bt_at a0 x7_1
             replace p19 := eq_true p19
             replace q19 := eq_true q19
             exact z15_1
            ·rw [if_neg c20] at H
             have c20b0 : ((bt a0 x7_1) == 46) = false := beq_eq_false_iff_ne.mpr c20
             have c20b1 : ((bt a0 x7_1) != 46) = true := bne_iff_ne.mpr c20
             have H' := Aside0.mk H
             clear H
             have p19 : 0 ≤ (x7_1 : Int) := of_decide_eq_true qlss
             have q19 : x7_1 < (a0.size : Int) := of_decide_eq_true qlss
             have hx19 := bt_at a0 x7_1
             replace p19 := eq_true p19
             replace q19 := eq_true q19
             go_wp2
             go_roundg kj4
             case measure => have := HK1.out; have := HJ1.out; have := HJ4.out; omega
             case rel => exact ⟨(x4_1), (x5_1), (x6_1), (wrap64 (x7_1 + 1)), q8z4, q8z4, q8z4, q8z4, H', ⟨q747⟩, ⟨qpag⟩⟩
           ·rw [if_neg c18] at H
            exact absurd H q6hr
          ·rw [if_neg c17] at H
           exact absurd H q6hr
     ·replace c4 := Bool.eq_false_iff.mpr c4
      subst c4
      rw [if_neg (show ¬ (false = true) by decide)] at H
      by_cases c21 : x6_1 = 4
      ·rw [if_pos c21] at H
       have c21b0 : (x6_1 == 4) = true := beq_iff_eq.mpr c21
       have c21b1 : (x6_1 != 4) = false := bne_eq_false_iff_eq.mpr c21
       clear c21
       replace H := Option.bind_eq_some_iff.mp H
       obtain ⟨t155, A220, H⟩ := H
       try dsimp only at H
       have A22 := Aside0.mk A220
       clear A220
       by_cases c23 : t155.toList = a0.toList
       ·rw [if_pos c23] at H
        have c23b0 : (t155.toList == a0.toList) = true := beq_iff_eq.mpr c23
        have c23b1 : (t155.toList != a0.toList) = false := bne_eq_false_iff_eq.mpr c23
        clear c23
        exact z15_0
       ·rw [if_neg c23] at H
        have c23b0 : (t155.toList == a0.toList) = false := beq_eq_false_iff_ne.mpr c23
        have c23b1 : (t155.toList != a0.toList) = true := bne_iff_ne.mpr c23
        exact z15_0
      ·rw [if_neg c21] at H
       have c21b0 : (x6_1 == 4) = false := beq_eq_false_iff_ne.mpr c21
       have c21b1 : (x6_1 != 4) = true := bne_iff_ne.mpr c21
       simp only [Option.some.injEq, Prod.mk.injEq] at H
       obtain ⟨rfl, rfl⟩ := H
       go_wp2
       go_ret2
       exact ⟨qxu5, qpag⟩
end Go.Proofs.YtgdjekigkimhnaaGreatDoor.P
