-- slim
-- Written by wip/hprint.py (this session's program) through the kit's print program; hand contracts are marked 'by hand'.
import Derived.Test.YtgdjekigkimhnaaGreatDoorAbb
import Derived.Test.YtgdjekigkimhnaaGreatDoorPx0
import Derived.Test.YtgdjekigkimhnaaGreatDoorPx14
import Derived.Test.YtgdjekigkimhnaaGreatDoorPx19
import Derived.Test.YtgdjekigkimhnaaGreatDoorPx17
import Derived.Test.YtgdjekigkimhnaaGreatDoorPx13
import Derived.Test.YtgdjekigkimhnaaGreatDoorPx21
namespace Go.Proofs.YtgdjekigkimhnaaGreatDoor.P
open Go.RowKit Go.Proofs.YtgdjekigkimhnaaGreatDoorW.PrintWords Go.Proofs.YtgdjekigkimhnaaGreatDoorW.PrintLast Go.Proofs.YtgdjekigkimhnaaGreatDoorW.PrintMore
attribute [local go_sem] max2_int min2_int max_two min_two max_three min_three max_four min_four   -- for this text's walks alone
set_option linter.unusedVariables false
set_option linter.unusedSimpArgs false

/-! ### gangwaylaw02_AddrsBack: function 5 -/
mutual
def gangwaylaw02_AddrsBack.j0 : Nat → Int → Int → ByteArray → Option (Bool)
 | 0, _, _, _ => none
 | k + 1, x0, x1, x2 => gangwaylaw02_AddrsBack.j1 k x0 x1 x2 (Go.bits .and .u64 x0 281474976710655)
def gangwaylaw02_AddrsBack.j1 : Nat → Int → Int → ByteArray → Int → Option (Bool)
 | 0, _, _, _, _ => none
 | k + 1, x0, x1, x2, x7 => (addrs_Mac.f k x0).bind fun t250 => ((addrs_ReadMac.f k t250).bind fun bt251 => ((addrs_Ip.f k x1).bind fun t253 => ((addrs_ReadIp.f k t253).bind fun bt254 => (if bt251.2 = 0 then (if bt251.1 = x7 then (if bt254.2 = 0 then (if bt254.1 = x1 then ((addrs_Mac.f k x0).bind fun t256 => ((addrs_Mac.f k x7).bind fun t257 => (gangwaylaw02_AddrsBack.j2 k x2 (t256.toList != t257.toList)))) else (gangwaylaw02_AddrsBack.j2 k x2 true)) else (gangwaylaw02_AddrsBack.j2 k x2 true)) else (gangwaylaw02_AddrsBack.j2 k x2 true)) else (gangwaylaw02_AddrsBack.j2 k x2 true)))))
def gangwaylaw02_AddrsBack.j2 : Nat → ByteArray → Bool → Option (Bool)
 | 0, _, _ => none
 | k + 1, x2, x57 => if x57 = true then (none) else ((addrs_ReadMac.f k x2).bind fun bt258 => ((addrs_ReadIp.f k x2).bind fun bt260 => (if bt258.2 = 0 then ((addrs_Mac.f k bt258.1).bind fun t262 => (if t262.toList = x2.toList then (if bt258.1 < 281474976710656 then (if bt260.2 = 0 then ((addrs_Ip.f k bt260.1).bind fun t263 => (if t263.toList = x2.toList then ((gangwaylaw02_fixed.f k).bind fun t264 => (some t264)) else (none))) else (if bt260.1 = 0 then ((gangwaylaw02_fixed.f k).bind fun t265 => (some t265)) else (none))) else (none)) else (none))) else (if bt260.2 = 0 then ((addrs_Ip.f k bt260.1).bind fun t266 => (if t266.toList = x2.toList then (if bt258.1 = 0 then ((gangwaylaw02_fixed.f k).bind fun t267 => (some t267)) else (none)) else (none))) else (if bt258.1 = 0 then (if bt260.1 = 0 then ((gangwaylaw02_fixed.f k).bind fun t268 => (some t268)) else (none)) else (none))))))
end
def gangwaylaw02_AddrsBack.f (k : Nat) (a0 : Int) (a1 : Int) (a2 : ByteArray) : Option (Bool) := if 0 ≤ (mn (a2.size : Int) 60) then (if (mn (a2.size : Int) 60) ≤ (a2.size : Int) then (gangwaylaw02_AddrsBack.j0 k a0 a1 (a2.extract 0 ((mn (a2.size : Int) 60) : Int).toNat)) else (none)) else (none)
theorem gangwaylaw02_AddrsBack.mono_l : ∀ k, (∀ y0 y1 y2, LeO (gangwaylaw02_AddrsBack.j0 k y0 y1 y2) (gangwaylaw02_AddrsBack.j0 (k + 1) y0 y1 y2)) ∧ (∀ y0 y1 y2 y3, LeO (gangwaylaw02_AddrsBack.j1 k y0 y1 y2 y3) (gangwaylaw02_AddrsBack.j1 (k + 1) y0 y1 y2 y3)) ∧ (∀ y0 y1, LeO (gangwaylaw02_AddrsBack.j2 k y0 y1) (gangwaylaw02_AddrsBack.j2 (k + 1) y0 y1))
 | 0 => ⟨fun _ _ _ r h => by simp [gangwaylaw02_AddrsBack.j0] at h, fun _ _ _ _ r h => by simp [gangwaylaw02_AddrsBack.j1] at h, fun _ _ r h => by simp [gangwaylaw02_AddrsBack.j2] at h⟩
 | k + 1 => by
  obtain ⟨ih0, ih1, ih2⟩ := gangwaylaw02_AddrsBack.mono_l k
  refine ⟨?_, ?_, ?_⟩
  ·intro y0 y1 y2
   unfold gangwaylaw02_AddrsBack.j0
   repeat' first
   | (with_reducible exact ih0 _ _ _)
   | (with_reducible exact ih1 _ _ _ _)
   | (with_reducible exact ih2 _ _)
   | (with_reducible exact addrs_Ip.mono _ _)
   | (with_reducible exact addrs_Mac.mono _ _)
   | (with_reducible exact addrs_ReadIp.mono _ _)
   | (with_reducible exact addrs_ReadMac.mono _ _)
   | (with_reducible exact gangwaylaw02_fixed.mono _)
   | (with_reducible exact LeO.refl _)
   | (with_reducible exact LeO.none _)
   | (with_reducible refine LeO.ite ?_ ?_)
   | (with_reducible refine LeO.bind ?_ (fun _ => ?_))
   | exact ih0 _ _ _
   | exact ih1 _ _ _ _
   | exact ih2 _ _
   | exact addrs_Ip.mono _ _
   | exact addrs_Mac.mono _ _
   | exact addrs_ReadIp.mono _ _
   | exact addrs_ReadMac.mono _ _
   | exact gangwaylaw02_fixed.mono _
   | exact LeO.none _
   | refine LeO.ite ?_ ?_
   | refine LeO.bind ?_ (fun _ => ?_)
  ·intro y0 y1 y2 y3
   unfold gangwaylaw02_AddrsBack.j1
   repeat' first
   | (with_reducible exact ih0 _ _ _)
   | (with_reducible exact ih1 _ _ _ _)
   | (with_reducible exact ih2 _ _)
   | (with_reducible exact addrs_Ip.mono _ _)
   | (with_reducible exact addrs_Mac.mono _ _)
   | (with_reducible exact addrs_ReadIp.mono _ _)
   | (with_reducible exact addrs_ReadMac.mono _ _)
   | (with_reducible exact gangwaylaw02_fixed.mono _)
   | (with_reducible exact LeO.refl _)
   | (with_reducible exact LeO.none _)
   | (with_reducible refine LeO.ite ?_ ?_)
   | (with_reducible refine LeO.bind ?_ (fun _ => ?_))
   | exact ih0 _ _ _
   | exact ih1 _ _ _ _
   | exact ih2 _ _
   | exact addrs_Ip.mono _ _
   | exact addrs_Mac.mono _ _
   | exact addrs_ReadIp.mono _ _
   | exact addrs_ReadMac.mono _ _
   | exact gangwaylaw02_fixed.mono _
   | exact LeO.none _
   | refine LeO.ite ?_ ?_
   | refine LeO.bind ?_ (fun _ => ?_)
  ·intro y0 y1
   unfold gangwaylaw02_AddrsBack.j2
   repeat' first
   | (with_reducible exact ih0 _ _ _)
   | (with_reducible exact ih1 _ _ _ _)
   | (with_reducible exact ih2 _ _)
   | (with_reducible exact addrs_Ip.mono _ _)
   | (with_reducible exact addrs_Mac.mono _ _)
   | (with_reducible exact addrs_ReadIp.mono _ _)
   | (with_reducible exact addrs_ReadMac.mono _ _)
   | (with_reducible exact gangwaylaw02_fixed.mono _)
   | (with_reducible exact LeO.refl _)
   | (with_reducible exact LeO.none _)
   | (with_reducible refine LeO.ite ?_ ?_)
   | (with_reducible refine LeO.bind ?_ (fun _ => ?_))
   | exact ih0 _ _ _
   | exact ih1 _ _ _ _
   | exact ih2 _ _
   | exact addrs_Ip.mono _ _
   | exact addrs_Mac.mono _ _
   | exact addrs_ReadIp.mono _ _
   | exact addrs_ReadMac.mono _ _
   | exact gangwaylaw02_fixed.mono _
   | exact LeO.none _
   | refine LeO.ite ?_ ?_
   | refine LeO.bind ?_ (fun _ => ?_)
theorem gangwaylaw02_AddrsBack.mono : ∀ a0 a1 a2 k, LeO (gangwaylaw02_AddrsBack.f k a0 a1 a2) (gangwaylaw02_AddrsBack.f (k + 1) a0 a1 a2) := by
 intro a0 a1 a2 k
 obtain ⟨ih0, ih1, ih2⟩ := gangwaylaw02_AddrsBack.mono_l k
 unfold gangwaylaw02_AddrsBack.f
 repeat' first
   | (with_reducible exact ih0 _ _ _)
   | (with_reducible exact ih1 _ _ _ _)
   | (with_reducible exact ih2 _ _)
   | (with_reducible exact addrs_Ip.mono _ _)
   | (with_reducible exact addrs_Mac.mono _ _)
   | (with_reducible exact addrs_ReadIp.mono _ _)
   | (with_reducible exact addrs_ReadMac.mono _ _)
   | (with_reducible exact gangwaylaw02_fixed.mono _)
   | (with_reducible exact LeO.refl _)
   | (with_reducible exact LeO.none _)
   | (with_reducible refine LeO.ite ?_ ?_)
   | (with_reducible refine LeO.bind ?_ (fun _ => ?_))
   | exact ih0 _ _ _
   | exact ih1 _ _ _ _
   | exact ih2 _ _
   | exact addrs_Ip.mono _ _
   | exact addrs_Mac.mono _ _
   | exact addrs_ReadIp.mono _ _
   | exact addrs_ReadMac.mono _ _
   | exact gangwaylaw02_fixed.mono _
   | exact LeO.none _
   | refine LeO.ite ?_ ?_
   | refine LeO.bind ?_ (fun _ => ?_)
theorem z31_0 {p : Prop} (h : p := by
 have H' := Aside0.mk H
 clear H
 go_wp2
 go_meet
 case rel => exact ⟨_, (true), q8z4, H', ⟨(by have := HJ3.out; have := HJ7.out; first | omega | exact Nat.le_refl _)⟩, ⟨qpag⟩⟩) : p := h
set_option maxHeartbeats 8000000 in
set_option maxRecDepth 100000 in
theorem gangwaylaw02_AddrsBack.calls (k : Nat) (a0 : Int) (a1 : Int) (a2 : ByteArray) (r : Bool) (w : World) (hL : Laid w) (h : gangwaylaw02_AddrsBack.f k a0 a1 a2 = some r) :
  Calls Tryz.prog 5 #[.int .u64 a0, .int .u32 a1, .string a2] w fun e w' => e = .returned (.bool r) ∧ Below w.heap.size w w' := by
 have HLD := Aside0.mk hL
 clear hL
 have HB := Aside0.mk (Below.refl w.heap.size w)
 have H := h
 unfold gangwaylaw02_AddrsBack.f at H
 clear h
 have HC4 := Aside0.mk H
 clear H
 go_enter Tryz.func5, Tryz.ntmps5
 go_upto_region 1 with (fail)
 go_cut [2] (fun v2 wc => ∃ (kq : Nat) (x2_3 : ByteArray), v2 = .string x2_3 ∧ Aside0 (gangwaylaw02_AddrsBack.j0 kq a0 a1 x2_3 = some r) ∧ Aside0 (kq ≤ k) ∧ Aside0 (Below w.heap.size w wc))
 case first =>
  have H := HC4.out
  clear HC4
  obtain ⟨ji5, hji5⟩ : ∃ j_ : Int, (mn (a2.size : Int) 60) = j_ := ⟨_, rfl⟩
  replace H : (if 0 ≤ (ji5) then (if (ji5) ≤ (a2.size : Int) then (gangwaylaw02_AddrsBack.j0 k a0 a1 (a2.extract 0 ((ji5) : Int).toNat)) else (none)) else (none)) = some r := by first | (rw [hji5] at H; exact H) | (simp only [hji5] at H ⊢; exact H)
  (try (have hji5h : ji5 ≤ 60 := by (rw [← hji5]; unfold mn; (repeat' split) <;> omega)))
  (try (have hji5g : ji5 ≤ 64 := by omega))
  (try (have hji5l : 0 ≤ ji5 := by (rw [← hji5]; unfold mn; (repeat' split) <;> omega)))
  (try (have hji5m : 0 ≤ ji5 := by omega))
  have hji5_ : (if 60 < (a2.size : Int) then 60 else (a2.size : Int)) = ji5 := hji5
  by_cases c6 : 0 ≤ (ji5)
  ·rw [if_pos c6] at H
   have c6b0 := eq_true c6
   have c6b1 : decide (0 ≤ (ji5)) = true := decide_eq_true c6
   clear c6
   by_cases c7 : (ji5) ≤ (a2.size : Int)
   ·rw [if_pos c7] at H
    have c7b0 := eq_true c7
    have c7b1 : decide ((ji5) ≤ (a2.size : Int)) = true := decide_eq_true c7
    clear c7
    have H' := Aside0.mk H
    clear H
    go_wp2
    go_meet
    case rel => exact ⟨_, (a2.extract 0 ((ji5) : Int).toNat), (by first | rfl | (simp; done) | (simp only [← hji5] <;> (first | rfl | simp)) | (simp [*]; done)), H', ⟨qpfc⟩, ⟨qpag⟩⟩
   ·rw [if_neg c7] at H
    exact absurd H q6hr
  ·rw [if_neg c6] at H
   exact absurd H q6hr
 case rest =>
  clear HC4
  try clear p2
  try clear c5
  try clear c6
  try clear c6b0
  try clear c6b1
  try clear c7
  try clear c7b0
  try clear c7b1
  obtain ⟨kq, x2_3, rfl, HA, HJ3, HB⟩ := hcut
  cases kq with
  | zero => exact absurd HA.out (by simp [gangwaylaw02_AddrsBack.j0])
  | succ kj3 =>
   have H := HA.out
   clear HA
   simp only [gangwaylaw02_AddrsBack.j0] at H
   have HC8 := Aside0.mk H
   clear H
   go_upto_region 2 with (fail)
   go_cut [7] (fun v7 wc => ∃ (kq : Nat) (x7_7 : Int), v7 = .int .u64 x7_7 ∧ Aside0 (gangwaylaw02_AddrsBack.j1 kq a0 a1 x2_3 x7_7 = some r) ∧ Aside0 (kq ≤ kj3) ∧ Aside0 (Below w.heap.size w wc))
   case first =>
    have H := HC8.out
    clear HC8
    have H' := Aside0.mk H
    clear H
    go_wp2
    go_meet
    case rel => exact ⟨_, (Go.bits .and .u64 a0 281474976710655), q8z4, H', ⟨(by have := HJ3.out; first | omega | exact Nat.le_refl _)⟩, ⟨qpag⟩⟩
   case rest =>
    clear HC8
    try clear p2
    try clear c5
    try clear c6
    try clear c6b0
    try clear c6b1
    try clear c7
    try clear c7b0
    try clear c7b1
    try clear p2
    obtain ⟨kq, x7_7, rfl, HA, HJ7, HB⟩ := hcut
    cases kq with
    | zero => exact absurd HA.out (by simp [gangwaylaw02_AddrsBack.j1])
    | succ kj7 =>
     have H := HA.out
     clear HA
     simp only [gangwaylaw02_AddrsBack.j1] at H
     replace H := Option.bind_eq_some_iff.mp H
     obtain ⟨t250, A90, H⟩ := H
     try dsimp only at H
     have A9 := Aside0.mk A90
     clear A90
     replace H := Option.bind_eq_some_iff.mp H
     obtain ⟨⟨t251, t252⟩, A100, H⟩ := H
     try dsimp only at H
     have A10 := Aside0.mk A100
     clear A100
     replace H := Option.bind_eq_some_iff.mp H
     obtain ⟨t253, A110, H⟩ := H
     try dsimp only at H
     have A11 := Aside0.mk A110
     clear A110
     replace H := Option.bind_eq_some_iff.mp H
     obtain ⟨⟨t254, t255⟩, A120, H⟩ := H
     try dsimp only at H
     have A12 := Aside0.mk A120
     clear A120
     have HC13 := Aside0.mk H
     clear H
     go_upto_region 5 with (first | ((with_reducible refine gate_callee (f := 14) rfl ?_); refine goesL_ (some 25) rfl rfl Tryz.func14 qg3m rfl #[.int .u64 a0] rfl qraq ?_; (with_reducible refine (addrs_Mac.calls kj7 a0 t250 _ A9.out).mono ?_); rintro e w14 ⟨rfl, hb⟩; refine ⟨_, rfl, ?_⟩; replace HB := Aside0.mk (below_step qpag hb); (try clear hb); (try clear hb2); (try clear hk); (try clear hi)) | ((with_reducible refine gate_callee (f := 9) rfl ?_); refine goesL_ (some 26) rfl rfl Tryz.func9 qg3m rfl #[.string t250] rfl qraq ?_; (with_reducible refine (addrs_ReadMac.calls kj7 t250 t251 t252 _ ?sideL A10.out).mono ?_); (case sideL => exact laid_below HLD.out qpag); rintro e w15 ⟨rfl, hb⟩; refine ⟨_, rfl, ?_⟩; replace HB := Aside0.mk (below_step qpag hb); (try clear hb); (try clear hb2); (try clear hk); (try clear hi)) | ((with_reducible refine gate_callee (f := 16) rfl ?_); refine goesL_ (some 31) rfl rfl Tryz.func16 qg3m rfl #[.int .u32 a1] rfl qraq ?_; (with_reducible refine (addrs_Ip.calls kj7 a1 t253 _ ?sideL A11.out).mono ?_); (case sideL => exact laid_below HLD.out qpag); rintro e w16 ⟨rfl, hb⟩; refine ⟨_, rfl, ?_⟩; replace HB := Aside0.mk (below_step qpag hb); (try clear hb); (try clear hb2); (try clear hk); (try clear hi)) | ((with_reducible refine gate_callee (f := 11) rfl ?_); refine goesL_ (some 32) rfl rfl Tryz.func11 qg3m rfl #[.string t253] rfl qraq ?_; (with_reducible refine (addrs_ReadIp.calls kj7 t253 t254 t255 _ ?sideL A12.out).mono ?_); (case sideL => exact laid_below HLD.out qpag); rintro e w17 ⟨rfl, hb⟩; refine ⟨_, rfl, ?_⟩; replace HB := Aside0.mk (below_step qpag hb); (try clear hb); (try clear hb2); (try clear hk); (try clear hi)))
     (try simp only [Act.put, List.setIfInBounds_toArray, List.set_cons_zero, List.set_cons_succ])
     go_cut [57] (fun v57 wc => ∃ (kq : Nat) (x57_12 : Bool), v57 = .bool x57_12 ∧ Aside0 (gangwaylaw02_AddrsBack.j2 kq x2_3 x57_12 = some r) ∧ Aside0 (kq ≤ kj7) ∧ Aside0 (Below w.heap.size w wc))
     case first =>
      have H := HC13.out
      clear HC13
      by_cases c18 : t252 = 0
      ·rw [if_pos c18] at H
       have c18b0 : (t252 == 0) = true := beq_iff_eq.mpr c18
       have c18b1 : (t252 != 0) = false := bne_eq_false_iff_eq.mpr c18
       clear c18
       (first | rw [c18b0] | (simp only [i64_w, i32_w]; rw [c18b0]) | skip)
       by_cases c19 : t251 = x7_7
       ·rw [if_pos c19] at H
        have c19b0 : (t251 == x7_7) = true := beq_iff_eq.mpr c19
        have c19b1 : (t251 != x7_7) = false := bne_eq_false_iff_eq.mpr c19
        clear c19
        by_cases c20 : t255 = 0
        ·rw [if_pos c20] at H
         have c20b0 : (t255 == 0) = true := beq_iff_eq.mpr c20
         have c20b1 : (t255 != 0) = false := bne_eq_false_iff_eq.mpr c20
         clear c20
         by_cases c21 : t254 = a1
         ·rw [if_pos c21] at H
          have c21b0 : (t254 == a1) = true := beq_iff_eq.mpr c21
          have c21b1 : (t254 != a1) = false := bne_eq_false_iff_eq.mpr c21
          clear c21
          replace H := Option.bind_eq_some_iff.mp H
          obtain ⟨t256, A220, H⟩ := H
          try dsimp only at H
          have A22 := Aside0.mk A220
          clear A220
          replace H := Option.bind_eq_some_iff.mp H
          obtain ⟨t257, A230, H⟩ := H
          try dsimp only at H
          have A23 := Aside0.mk A230
          clear A230
          have H' := Aside0.mk H
          clear H
          go_wp2_with (first | (go_at_call 14; (with_reducible refine (addrs_Mac.calls kj7 a0 t256 _ A22.out).mono ?_); rintro e w24 ⟨rfl, hb⟩; replace HB := Aside0.mk (below_step qpag hb); (try clear hb); (try clear hb2); (try clear hk); (try clear hi)) | (go_at_call 14; (with_reducible refine (addrs_Mac.calls kj7 x7_7 t257 _ A23.out).mono ?_); rintro e w25 ⟨rfl, hb⟩; replace HB := Aside0.mk (below_step qpag hb); (try clear hb); (try clear hb2); (try clear hk); (try clear hi)))
          go_meet
          case rel => exact ⟨_, ((t256.toList != t257.toList)), q8z4, H', ⟨(by have := HJ3.out; have := HJ7.out; first | omega | exact Nat.le_refl _)⟩, ⟨qpag⟩⟩
         ·rw [if_neg c21] at H
          have c21b0 : (t254 == a1) = false := beq_eq_false_iff_ne.mpr c21
          have c21b1 : (t254 != a1) = true := bne_iff_ne.mpr c21
          exact z31_0
        ·rw [if_neg c20] at H
         have c20b0 : (t255 == 0) = false := beq_eq_false_iff_ne.mpr c20
         have c20b1 : (t255 != 0) = true := bne_iff_ne.mpr c20
         exact z31_0
       ·rw [if_neg c19] at H
        have c19b0 : (t251 == x7_7) = false := beq_eq_false_iff_ne.mpr c19
        have c19b1 : (t251 != x7_7) = true := bne_iff_ne.mpr c19
        exact z31_0
      ·rw [if_neg c18] at H
       have c18b0 : (t252 == 0) = false := beq_eq_false_iff_ne.mpr c18
       have c18b1 : (t252 != 0) = true := bne_iff_ne.mpr c18
       (first | rw [c18b0] | (simp only [i64_w, i32_w]; rw [c18b0]) | skip)
       exact z31_0
     case rest =>
      clear HC13
      try clear c1
      try clear c2
      try clear p2
      try clear c5
      try clear c6
      try clear c6b0
      try clear c6b1
      try clear c7
      try clear c7b0
      try clear c7b1
      try clear c9
      try clear c11
      try clear c14
      try clear c16
      try clear c18
      try clear c18b0
      try clear c18b1
      try clear c19
      try clear c19b0
      try clear c19b1
      try clear c20
      try clear c20b0
      try clear c20b1
      try clear c21
      try clear c21b0
      try clear c21b1
      try clear p2
      obtain ⟨kq, x57_12, rfl, HA, HJ12, HB⟩ := hcut
      cases kq with
      | zero => exact absurd HA.out (by simp [gangwaylaw02_AddrsBack.j2])
      | succ kj12 =>
       have H := HA.out
       clear HA
       simp only [gangwaylaw02_AddrsBack.j2] at H
       by_cases c26 : x57_12 = true
       ·subst c26
        rw [if_pos rfl] at H
        exact absurd H q6hr
       ·replace c26 := Bool.eq_false_iff.mpr c26
        subst c26
        rw [if_neg (show ¬ (false = true) by decide)] at H
        replace H := Option.bind_eq_some_iff.mp H
        obtain ⟨⟨t258, t259⟩, A270, H⟩ := H
        try dsimp only at H
        have A27 := Aside0.mk A270
        clear A270
        replace H := Option.bind_eq_some_iff.mp H
        obtain ⟨⟨t260, t261⟩, A280, H⟩ := H
        try dsimp only at H
        have A28 := Aside0.mk A280
        clear A280
        by_cases c29 : t259 = 0
        ·rw [if_pos c29] at H
         have c29b0 : (t259 == 0) = true := beq_iff_eq.mpr c29
         have c29b1 : (t259 != 0) = false := bne_eq_false_iff_eq.mpr c29
         clear c29
         replace H := Option.bind_eq_some_iff.mp H
         obtain ⟨t262, A300, H⟩ := H
         try dsimp only at H
         have A30 := Aside0.mk A300
         clear A300
         by_cases c31 : t262.toList = x2_3.toList
         ·rw [if_pos c31] at H
          have c31b0 : (t262.toList == x2_3.toList) = true := beq_iff_eq.mpr c31
          have c31b1 : (t262.toList != x2_3.toList) = false := bne_eq_false_iff_eq.mpr c31
          clear c31
          by_cases c32 : t258 < 281474976710656
          ·rw [if_pos c32] at H
           have c32b0 : decide (t258 < 281474976710656) = true := decide_eq_true c32
           clear c32
           by_cases c33 : t261 = 0
           ·rw [if_pos c33] at H
            have c33b0 : (t261 == 0) = true := beq_iff_eq.mpr c33
            have c33b1 : (t261 != 0) = false := bne_eq_false_iff_eq.mpr c33
            clear c33
            replace H := Option.bind_eq_some_iff.mp H
            obtain ⟨t263, A340, H⟩ := H
            try dsimp only at H
            have A34 := Aside0.mk A340
            clear A340
            by_cases c35 : t263.toList = x2_3.toList
            ·rw [if_pos c35] at H
             have c35b0 : (t263.toList == x2_3.toList) = true := beq_iff_eq.mpr c35
             have c35b1 : (t263.toList != x2_3.toList) = false := bne_eq_false_iff_eq.mpr c35
             clear c35
             replace H := Option.bind_eq_some_iff.mp H
             obtain ⟨t264, A360, H⟩ := H
             try dsimp only at H
             have A36 := Aside0.mk A360
             clear A360
             obtain rfl := Option.some.inj H
             go_wp2_with (first | ((with_reducible refine gate_callee (f := 9) rfl ?_); refine goesL_ (some 60) rfl rfl Tryz.func9 qg3m rfl #[.string x2_3] rfl qraq ?_; (with_reducible refine (addrs_ReadMac.calls kj12 x2_3 t258 t259 _ ?sideL A27.out).mono ?_); (case sideL => exact laid_below HLD.out qpag); rintro e w37 ⟨rfl, hb⟩; refine ⟨_, rfl, ?_⟩; replace HB := Aside0.mk (below_step qpag hb); (try clear hb); (try clear hb2); (try clear hk); (try clear hi)) | ((with_reducible refine gate_callee (f := 11) rfl ?_); refine goesL_ (some 65) rfl rfl Tryz.func11 qg3m rfl #[.string x2_3] rfl qraq ?_; (with_reducible refine (addrs_ReadIp.calls kj12 x2_3 t260 t261 _ ?sideL A28.out).mono ?_); (case sideL => exact laid_below HLD.out qpag); rintro e w38 ⟨rfl, hb⟩; refine ⟨_, rfl, ?_⟩; replace HB := Aside0.mk (below_step qpag hb); (try clear hb); (try clear hb2); (try clear hk); (try clear hi)) | (go_at_call 14; (with_reducible refine (addrs_Mac.calls kj12 t258 t262 _ A30.out).mono ?_); rintro e w39 ⟨rfl, hb⟩; replace HB := Aside0.mk (below_step qpag hb); (try clear hb); (try clear hb2); (try clear hk); (try clear hi)) | (go_at_call 16; (with_reducible refine (addrs_Ip.calls kj12 t260 t263 _ ?sideL A34.out).mono ?_); (case sideL => exact laid_below HLD.out qpag); rintro e w40 ⟨rfl, hb⟩; replace HB := Aside0.mk (below_step qpag hb); (try clear hb); (try clear hb2); (try clear hk); (try clear hi)) | (go_at_call 13; (with_reducible refine (gangwaylaw02_fixed.calls kj12  t264 _ ?sideL A36.out).mono ?_); (case sideL => exact laid_below HLD.out qpag); rintro e w41 ⟨rfl, hb⟩; replace HB := Aside0.mk (below_step qpag hb); (try clear hb); (try clear hb2); (try clear hk); (try clear hi)))
             go_ret
             exact ⟨qxu5, qpag⟩
            ·rw [if_neg c35] at H
             exact absurd H q6hr
           ·rw [if_neg c33] at H
            have c33b0 : (t261 == 0) = false := beq_eq_false_iff_ne.mpr c33
            have c33b1 : (t261 != 0) = true := bne_iff_ne.mpr c33
            by_cases c42 : t260 = 0
            ·rw [if_pos c42] at H
             have c42b0 : (t260 == 0) = true := beq_iff_eq.mpr c42
             have c42b1 : (t260 != 0) = false := bne_eq_false_iff_eq.mpr c42
             clear c42
             replace H := Option.bind_eq_some_iff.mp H
             obtain ⟨t265, A430, H⟩ := H
             try dsimp only at H
             have A43 := Aside0.mk A430
             clear A430
             obtain rfl := Option.some.inj H
             go_wp2_with (first | ((with_reducible refine gate_callee (f := 9) rfl ?_); refine goesL_ (some 60) rfl rfl Tryz.func9 qg3m rfl #[.string x2_3] rfl qraq ?_; (with_reducible refine (addrs_ReadMac.calls kj12 x2_3 t258 t259 _ ?sideL A27.out).mono ?_); (case sideL => exact laid_below HLD.out qpag); rintro e w44 ⟨rfl, hb⟩; refine ⟨_, rfl, ?_⟩; replace HB := Aside0.mk (below_step qpag hb); (try clear hb); (try clear hb2); (try clear hk); (try clear hi)) | ((with_reducible refine gate_callee (f := 11) rfl ?_); refine goesL_ (some 65) rfl rfl Tryz.func11 qg3m rfl #[.string x2_3] rfl qraq ?_; (with_reducible refine (addrs_ReadIp.calls kj12 x2_3 t260 t261 _ ?sideL A28.out).mono ?_); (case sideL => exact laid_below HLD.out qpag); rintro e w45 ⟨rfl, hb⟩; refine ⟨_, rfl, ?_⟩; replace HB := Aside0.mk (below_step qpag hb); (try clear hb); (try clear hb2); (try clear hk); (try clear hi)) | (go_at_call 14; (with_reducible refine (addrs_Mac.calls kj12 t258 t262 _ A30.out).mono ?_); rintro e w46 ⟨rfl, hb⟩; replace HB := Aside0.mk (below_step qpag hb); (try clear hb); (try clear hb2); (try clear hk); (try clear hi)) | (go_at_call 13; (with_reducible refine (gangwaylaw02_fixed.calls kj12  t265 _ ?sideL A43.out).mono ?_); (case sideL => exact laid_below HLD.out qpag); rintro e w47 ⟨rfl, hb⟩; replace HB := Aside0.mk (below_step qpag hb); (try clear hb); (try clear hb2); (try clear hk); (try clear hi)))
             go_ret
             exact ⟨qxu5, qpag⟩
            ·rw [if_neg c42] at H
             exact absurd H q6hr
          ·rw [if_neg c32] at H
           exact absurd H q6hr
         ·rw [if_neg c31] at H
          exact absurd H q6hr
        ·rw [if_neg c29] at H
         have c29b0 : (t259 == 0) = false := beq_eq_false_iff_ne.mpr c29
         have c29b1 : (t259 != 0) = true := bne_iff_ne.mpr c29
         by_cases c48 : t261 = 0
         ·rw [if_pos c48] at H
          have c48b0 : (t261 == 0) = true := beq_iff_eq.mpr c48
          have c48b1 : (t261 != 0) = false := bne_eq_false_iff_eq.mpr c48
          clear c48
          replace H := Option.bind_eq_some_iff.mp H
          obtain ⟨t266, A490, H⟩ := H
          try dsimp only at H
          have A49 := Aside0.mk A490
          clear A490
          by_cases c50 : t266.toList = x2_3.toList
          ·rw [if_pos c50] at H
           have c50b0 : (t266.toList == x2_3.toList) = true := beq_iff_eq.mpr c50
           have c50b1 : (t266.toList != x2_3.toList) = false := bne_eq_false_iff_eq.mpr c50
           clear c50
           by_cases c51 : t258 = 0
           ·rw [if_pos c51] at H
            have c51b0 : (t258 == 0) = true := beq_iff_eq.mpr c51
            have c51b1 : (t258 != 0) = false := bne_eq_false_iff_eq.mpr c51
            clear c51
            replace H := Option.bind_eq_some_iff.mp H
            obtain ⟨t267, A520, H⟩ := H
            try dsimp only at H
            have A52 := Aside0.mk A520
            clear A520
            obtain rfl := Option.some.inj H
            go_wp2_with (first | ((with_reducible refine gate_callee (f := 9) rfl ?_); refine goesL_ (some 60) rfl rfl Tryz.func9 qg3m rfl #[.string x2_3] rfl qraq ?_; (with_reducible refine (addrs_ReadMac.calls kj12 x2_3 t258 t259 _ ?sideL A27.out).mono ?_); (case sideL => exact laid_below HLD.out qpag); rintro e w53 ⟨rfl, hb⟩; refine ⟨_, rfl, ?_⟩; replace HB := Aside0.mk (below_step qpag hb); (try clear hb); (try clear hb2); (try clear hk); (try clear hi)) | ((with_reducible refine gate_callee (f := 11) rfl ?_); refine goesL_ (some 65) rfl rfl Tryz.func11 qg3m rfl #[.string x2_3] rfl qraq ?_; (with_reducible refine (addrs_ReadIp.calls kj12 x2_3 t260 t261 _ ?sideL A28.out).mono ?_); (case sideL => exact laid_below HLD.out qpag); rintro e w54 ⟨rfl, hb⟩; refine ⟨_, rfl, ?_⟩; replace HB := Aside0.mk (below_step qpag hb); (try clear hb); (try clear hb2); (try clear hk); (try clear hi)) | (go_at_call 16; (with_reducible refine (addrs_Ip.calls kj12 t260 t266 _ ?sideL A49.out).mono ?_); (case sideL => exact laid_below HLD.out qpag); rintro e w55 ⟨rfl, hb⟩; replace HB := Aside0.mk (below_step qpag hb); (try clear hb); (try clear hb2); (try clear hk); (try clear hi)) | (go_at_call 13; (with_reducible refine (gangwaylaw02_fixed.calls kj12  t267 _ ?sideL A52.out).mono ?_); (case sideL => exact laid_below HLD.out qpag); rintro e w56 ⟨rfl, hb⟩; replace HB := Aside0.mk (below_step qpag hb); (try clear hb); (try clear hb2); (try clear hk); (try clear hi)))
            go_ret
            exact ⟨qxu5, qpag⟩
           ·rw [if_neg c51] at H
            exact absurd H q6hr
          ·rw [if_neg c50] at H
           exact absurd H q6hr
         ·rw [if_neg c48] at H
          have c48b0 : (t261 == 0) = false := beq_eq_false_iff_ne.mpr c48
          have c48b1 : (t261 != 0) = true := bne_iff_ne.mpr c48
          by_cases c57 : t258 = 0
          ·rw [if_pos c57] at H
           have c57b0 : (t258 == 0) = true := beq_iff_eq.mpr c57
           have c57b1 : (t258 != 0) = false := bne_eq_false_iff_eq.mpr c57
           clear c57
           by_cases c58 : t260 = 0
           ·rw [if_pos c58] at H
            have c58b0 : (t260 == 0) = true := beq_iff_eq.mpr c58
            have c58b1 : (t260 != 0) = false := bne_eq_false_iff_eq.mpr c58
            clear c58
            replace H := Option.bind_eq_some_iff.mp H
            obtain ⟨t268, A590, H⟩ := H
            try dsimp only at H
            have A59 := Aside0.mk A590
            clear A590
            obtain rfl := Option.some.inj H
            go_wp2_with (first | ((with_reducible refine gate_callee (f := 9) rfl ?_); refine goesL_ (some 60) rfl rfl Tryz.func9 qg3m rfl #[.string x2_3] rfl qraq ?_; (with_reducible refine (addrs_ReadMac.calls kj12 x2_3 t258 t259 _ ?sideL A27.out).mono ?_); (case sideL => exact laid_below HLD.out qpag); rintro e w60 ⟨rfl, hb⟩; refine ⟨_, rfl, ?_⟩; replace HB := Aside0.mk (below_step qpag hb); (try clear hb); (try clear hb2); (try clear hk); (try clear hi)) | ((with_reducible refine gate_callee (f := 11) rfl ?_); refine goesL_ (some 65) rfl rfl Tryz.func11 qg3m rfl #[.string x2_3] rfl qraq ?_; (with_reducible refine (addrs_ReadIp.calls kj12 x2_3 t260 t261 _ ?sideL A28.out).mono ?_); (case sideL => exact laid_below HLD.out qpag); rintro e w61 ⟨rfl, hb⟩; refine ⟨_, rfl, ?_⟩; replace HB := Aside0.mk (below_step qpag hb); (try clear hb); (try clear hb2); (try clear hk); (try clear hi)) | (go_at_call 13; (with_reducible refine (gangwaylaw02_fixed.calls kj12  t268 _ ?sideL A59.out).mono ?_); (case sideL => exact laid_below HLD.out qpag); rintro e w62 ⟨rfl, hb⟩; replace HB := Aside0.mk (below_step qpag hb); (try clear hb); (try clear hb2); (try clear hk); (try clear hi)))
            go_ret
            exact ⟨qxu5, qpag⟩
           ·rw [if_neg c58] at H
            exact absurd H q6hr
          ·rw [if_neg c57] at H
           exact absurd H q6hr
end Go.Proofs.YtgdjekigkimhnaaGreatDoor.P
