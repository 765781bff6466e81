-- slim
-- Written by wip/hprint.py (this session's program) through the kit's print program; hand contracts are marked 'by hand'.
import Derived.Test.YtgdjekigkimhnaaGreatDoorAbb
import Derived.Test.YtgdjekigkimhnaaGreatDoorPx0
import Derived.Test.YtgdjekigkimhnaaGreatDoorPx13
import Derived.Test.YtgdjekigkimhnaaGreatDoorPx3
namespace Go.Proofs.YtgdjekigkimhnaaGreatDoor.P
open Go.RowKit Go.Proofs.YtgdjekigkimhnaaGreatDoorW.PrintWords Go.Proofs.YtgdjekigkimhnaaGreatDoorW.PrintLast Go.Proofs.YtgdjekigkimhnaaGreatDoorW.PrintMore
attribute [local go_sem] max2_int min2_int max_two min_two max_three min_three max_four min_four   -- for this text's walks alone
set_option linter.unusedVariables false
set_option linter.unusedSimpArgs false

/-! ### gangwayref02_Ip: function 17 -/
def gangwayref02_Ip.f (k : Nat) (a0 : Int) : Option (ByteArray) := (gangwayref02_Num.f k ((Int.tdiv a0 16777216) % 4294967296)).bind fun t151 => (if t151.size + 1 ≤ 9223372036854775807 then ((gangwayref02_Num.f k ((Int.tdiv a0 65536) % 256)).bind fun t152 => (if (t151 ++ (⟨#[46]⟩ : ByteArray)).size + t152.size ≤ 9223372036854775807 then (if ((t151 ++ (⟨#[46]⟩ : ByteArray)) ++ t152).size + 1 ≤ 9223372036854775807 then ((gangwayref02_Num.f k ((Int.tdiv a0 256) % 256)).bind fun t153 => (if (((t151 ++ (⟨#[46]⟩ : ByteArray)) ++ t152) ++ (⟨#[46]⟩ : ByteArray)).size + t153.size ≤ 9223372036854775807 then (if ((((t151 ++ (⟨#[46]⟩ : ByteArray)) ++ t152) ++ (⟨#[46]⟩ : ByteArray)) ++ t153).size + 1 ≤ 9223372036854775807 then ((gangwayref02_Num.f k (wrap64 (Int.tmod a0 256))).bind fun t154 => (if (((((t151 ++ (⟨#[46]⟩ : ByteArray)) ++ t152) ++ (⟨#[46]⟩ : ByteArray)) ++ t153) ++ (⟨#[46]⟩ : ByteArray)).size + t154.size ≤ 9223372036854775807 then (some ((((((t151 ++ (⟨#[46]⟩ : ByteArray)) ++ t152) ++ (⟨#[46]⟩ : ByteArray)) ++ t153) ++ (⟨#[46]⟩ : ByteArray)) ++ t154)) else (none))) else (none)) else (none))) else (none)) else (none))) else (none))
theorem gangwayref02_Ip.mono : ∀ a0 k, LeO (gangwayref02_Ip.f k a0) (gangwayref02_Ip.f (k + 1) a0) := by
 intro a0 k
 unfold gangwayref02_Ip.f
 repeat' first
   | (with_reducible exact gangwayref02_Num.mono _ _)
   | (with_reducible exact LeO.refl _)
   | (with_reducible exact LeO.none _)
   | (with_reducible refine LeO.ite ?_ ?_)
   | (with_reducible refine LeO.bind ?_ (fun _ => ?_))
   | exact gangwayref02_Num.mono _ _
   | exact LeO.none _
   | refine LeO.ite ?_ ?_
   | refine LeO.bind ?_ (fun _ => ?_)
set_option maxHeartbeats 8000000 in
set_option maxRecDepth 100000 in
theorem gangwayref02_Ip.calls (k : Nat) (a0 : Int) (r : ByteArray) (w : World) (h : gangwayref02_Ip.f k a0 = some r) :
  Calls Tryz.prog 17 #[.int .u32 a0] w fun e w' => e = .returned (.string r) ∧ Below w.heap.size w w' := by
 have HB := Aside0.mk (Below.refl w.heap.size w)
 have H := h
 unfold gangwayref02_Ip.f at H
 clear h
 replace H := Option.bind_eq_some_iff.mp H
 obtain ⟨t151, A20, H⟩ := H
 try dsimp only at H
 have A2 := Aside0.mk A20
 clear A20
 by_cases c3 : t151.size + 1 ≤ 9223372036854775807
 ·rw [if_pos c3] at H
  have c3b0 := eq_true c3
  have c3b1 : decide (t151.size + 1 ≤ 9223372036854775807) = true := decide_eq_true c3
  try have c3b2 : (9223372036854775807 < t151.size + 1) = False := eq_false (Nat.not_lt.2 c3)
  replace H := Option.bind_eq_some_iff.mp H
  obtain ⟨t152, A40, H⟩ := H
  try dsimp only at H
  have A4 := Aside0.mk A40
  clear A40
  by_cases c5 : (t151 ++ (⟨#[46]⟩ : ByteArray)).size + t152.size ≤ 9223372036854775807
  ·rw [if_pos c5] at H
   have c5b0 := eq_true c5
   have c5b1 : decide ((t151 ++ (⟨#[46]⟩ : ByteArray)).size + t152.size ≤ 9223372036854775807) = true := decide_eq_true c5
   have c5z := c5
   simp only [ByteArray.size_append] at c5z
   have c5z1 := eq_true c5z
   have c5z2 := eq_false (Nat.not_lt.2 c5z)
   try (have c5l := c5z; simp only [show (⟨#[46]⟩ : ByteArray).size = 1 from rfl, Nat.reduceAdd] at c5l; have c5l1 := eq_true c5l; have c5l2 := eq_false (Nat.not_lt.2 c5l))
   try have c5b2 : (9223372036854775807 < (t151 ++ (⟨#[46]⟩ : ByteArray)).size + t152.size) = False := eq_false (Nat.not_lt.2 c5)
   by_cases c6 : ((t151 ++ (⟨#[46]⟩ : ByteArray)) ++ t152).size + 1 ≤ 9223372036854775807
   ·rw [if_pos c6] at H
    have c6b0 := eq_true c6
    have c6b1 : decide (((t151 ++ (⟨#[46]⟩ : ByteArray)) ++ t152).size + 1 ≤ 9223372036854775807) = true := decide_eq_true c6
    have c6z := c6
    simp only [ByteArray.size_append] at c6z
    have c6z1 := eq_true c6z
    have c6z2 := eq_false (Nat.not_lt.2 c6z)
    try (have c6l := c6z; simp only [show (⟨#[46]⟩ : ByteArray).size = 1 from rfl, Nat.reduceAdd] at c6l; have c6l1 := eq_true c6l; have c6l2 := eq_false (Nat.not_lt.2 c6l))
    try have c6b2 : (9223372036854775807 < ((t151 ++ (⟨#[46]⟩ : ByteArray)) ++ t152).size + 1) = False := eq_false (Nat.not_lt.2 c6)
    replace H := Option.bind_eq_some_iff.mp H
    obtain ⟨t153, A70, H⟩ := H
    try dsimp only at H
    have A7 := Aside0.mk A70
    clear A70
    by_cases c8 : (((t151 ++ (⟨#[46]⟩ : ByteArray)) ++ t152) ++ (⟨#[46]⟩ : ByteArray)).size + t153.size ≤ 9223372036854775807
    ·rw [if_pos c8] at H
     have c8b0 := eq_true c8
     have c8b1 : decide ((((t151 ++ (⟨#[46]⟩ : ByteArray)) ++ t152) ++ (⟨#[46]⟩ : ByteArray)).size + t153.size ≤ 9223372036854775807) = true := decide_eq_true c8
     have c8z := c8
     simp only [ByteArray.size_append] at c8z
     have c8z1 := eq_true c8z
     have c8z2 := eq_false (Nat.not_lt.2 c8z)
     try (have c8l := c8z; simp only [show (⟨#[46]⟩ : ByteArray).size = 1 from rfl, Nat.reduceAdd] at c8l; have c8l1 := eq_true c8l; have c8l2 := eq_false (Nat.not_lt.2 c8l))
     try have c8b2 : (9223372036854775807 < (((t151 ++ (⟨#[46]⟩ : ByteArray)) ++ t152) ++ (⟨#[46]⟩ : ByteArray)).size + t153.size) = False := eq_false (Nat.not_lt.2 c8)
     by_cases c9 : ((((t151 ++ (⟨#[46]⟩ : ByteArray)) ++ t152) ++ (⟨#[46]⟩ : ByteArray)) ++ t153).size + 1 ≤ 9223372036854775807
     ·rw [if_pos c9] at H
      have c9b0 := eq_true c9
      have c9b1 : decide (((((t151 ++ (⟨#[46]⟩ : ByteArray)) ++ t152) ++ (⟨#[46]⟩ : ByteArray)) ++ t153).size + 1 ≤ 9223372036854775807) = true := decide_eq_true c9
      have c9z := c9
      simp only [ByteArray.size_append] at c9z
      have c9z1 := eq_true c9z
      have c9z2 := eq_false (Nat.not_lt.2 c9z)
      try (have c9l := c9z; simp only [show (⟨#[46]⟩ : ByteArray).size = 1 from rfl, Nat.reduceAdd] at c9l; have c9l1 := eq_true c9l; have c9l2 := eq_false (Nat.not_lt.2 c9l))
      try have c9b2 : (9223372036854775807 < ((((t151 ++ (⟨#[46]⟩ : ByteArray)) ++ t152) ++ (⟨#[46]⟩ : ByteArray)) ++ t153).size + 1) = False := eq_false (Nat.not_lt.2 c9)
      replace H := Option.bind_eq_some_iff.mp H
      obtain ⟨t154, A100, H⟩ := H
      try dsimp only at H
      have A10 := Aside0.mk A100
      clear A100
      by_cases c11 : (((((t151 ++ (⟨#[46]⟩ : ByteArray)) ++ t152) ++ (⟨#[46]⟩ : ByteArray)) ++ t153) ++ (⟨#[46]⟩ : ByteArray)).size + t154.size ≤ 9223372036854775807
      ·rw [if_pos c11] at H
       have c11b0 := eq_true c11
       have c11b1 : decide ((((((t151 ++ (⟨#[46]⟩ : ByteArray)) ++ t152) ++ (⟨#[46]⟩ : ByteArray)) ++ t153) ++ (⟨#[46]⟩ : ByteArray)).size + t154.size ≤ 9223372036854775807) = true := decide_eq_true c11
       have c11z := c11
       simp only [ByteArray.size_append] at c11z
       have c11z1 := eq_true c11z
       have c11z2 := eq_false (Nat.not_lt.2 c11z)
       try (have c11l := c11z; simp only [show (⟨#[46]⟩ : ByteArray).size = 1 from rfl, Nat.reduceAdd] at c11l; have c11l1 := eq_true c11l; have c11l2 := eq_false (Nat.not_lt.2 c11l))
       try have c11b2 : (9223372036854775807 < (((((t151 ++ (⟨#[46]⟩ : ByteArray)) ++ t152) ++ (⟨#[46]⟩ : ByteArray)) ++ t153) ++ (⟨#[46]⟩ : ByteArray)).size + t154.size) = False := eq_false (Nat.not_lt.2 c11)
       obtain rfl := Option.some.inj H
       go_enter Tryz.func17, Tryz.ntmps17
       go_wp2_with (first | ((with_reducible refine gate_callee (f := 43) rfl ?_); refine goesL_ (some 6) rfl rfl Tryz.func43 qg3m rfl #[.int .i64 ((Int.tdiv a0 16777216) % 4294967296)] rfl qraq ?_; (with_reducible refine (gangwayref02_Num.calls k ((Int.tdiv a0 16777216) % 4294967296) t151 _ A2.out).mono ?_); rintro e w12 ⟨rfl, hb⟩; refine ⟨_, rfl, ?_⟩; replace HB := Aside0.mk (below_step qpag hb); (try clear hb); (try clear hb2); (try clear hk); (try clear hi)) | ((with_reducible refine gate_callee (f := 43) rfl ?_); refine goesL_ (some 12) rfl rfl Tryz.func43 qg3m rfl #[.int .i64 ((Int.tdiv a0 65536) % 256)] rfl qraq ?_; (with_reducible refine (gangwayref02_Num.calls k ((Int.tdiv a0 65536) % 256) t152 _ A4.out).mono ?_); rintro e w13 ⟨rfl, hb⟩; refine ⟨_, rfl, ?_⟩; replace HB := Aside0.mk (below_step qpag hb); (try clear hb); (try clear hb2); (try clear hk); (try clear hi)) | ((with_reducible refine gate_callee (f := 43) rfl ?_); refine goesL_ (some 19) rfl rfl Tryz.func43 qg3m rfl #[.int .i64 ((Int.tdiv a0 256) % 256)] rfl qraq ?_; (with_reducible refine (gangwayref02_Num.calls k ((Int.tdiv a0 256) % 256) t153 _ A7.out).mono ?_); rintro e w14 ⟨rfl, hb⟩; refine ⟨_, rfl, ?_⟩; replace HB := Aside0.mk (below_step qpag hb); (try clear hb); (try clear hb2); (try clear hk); (try clear hi)) | ((with_reducible refine gate_callee (f := 43) rfl ?_); refine goesL_ (some 25) rfl rfl Tryz.func43 qg3m rfl #[.int .i64 (wrap64 (Int.tmod a0 256))] rfl qraq ?_; (with_reducible refine (gangwayref02_Num.calls k (wrap64 (Int.tmod a0 256)) t154 _ A10.out).mono ?_); rintro e w15 ⟨rfl, hb⟩; refine ⟨_, rfl, ?_⟩; replace HB := Aside0.mk (below_step qpag hb); (try clear hb); (try clear hb2); (try clear hk); (try clear hi)))
       go_ret
       exact ⟨qxu5, qpag⟩
      ·rw [if_neg c11] at H
       exact absurd H q6hr
     ·rw [if_neg c9] at H
      exact absurd H q6hr
    ·rw [if_neg c8] at H
     exact absurd H q6hr
   ·rw [if_neg c6] at H
    exact absurd H q6hr
  ·rw [if_neg c5] at H
   exact absurd H q6hr
 ·rw [if_neg c3] at H
  exact absurd H q6hr

end Go.Proofs.YtgdjekigkimhnaaGreatDoor.P
namespace Go.Proofs.YtgdjekigkimhnaaGreatDoor.P
open Go.RowKit Go.Proofs.YtgdjekigkimhnaaGreatDoorW.PrintWords Go.Proofs.YtgdjekigkimhnaaGreatDoorW.PrintLast Go.Proofs.YtgdjekigkimhnaaGreatDoorW.PrintMore
attribute [local go_sem] max2_int min2_int max_two min_two max_three min_three max_four min_four   -- for this text's walks alone
set_option linter.unusedVariables false
set_option linter.unusedSimpArgs false

theorem qtvk {p : Prop} (h : p := by (with_reducible repeat (first | apply Kd.R_alloc | apply Kd.R_drewN | apply Kd.R_drew)); exact HO_5.out) : p := h
/-! ### addrs_Mac: function 14 -/
def addrs_Mac.l0 : Nat → ByteArray → List ByteArray → Int → Option (ByteArray)
 | 0, _, _, _ => none
 | k + 1, x3, x5, x13 => if x13 < 6 then (if 0 ≤ x13 then (if x13 ≤ (wrap64 (x13 + 1)) then (if (wrap64 (x13 + 1)) ≤ (x3.size : Int) then ((octets_Hex.f (x3.extract (x13 : Int).toNat ((wrap64 (x13 + 1)) : Int).toNat)).bind fun t107 => (if x5.length < 8796093022208 then (addrs_Mac.l0 k x3 (x5 ++ [t107]) (wrap64 (x13 + 1))) else (none))) else (none)) else (none)) else (none)) else ((strings_Join.f x5 (⟨#[58]⟩ : ByteArray)).bind fun t111 => (some t111))
def addrs_Mac.f (k : Nat) (a0 : Int) : Option (ByteArray) := (octets_Put.f k (Int.tmod a0 281474976710656) 6).bind fun bt105 => (addrs_Mac.l0 k bt105.1 ([] : List ByteArray) 0)
theorem addrs_Mac.mono_l : ∀ k, (∀ y0 y1 y2, LeO (addrs_Mac.l0 k y0 y1 y2) (addrs_Mac.l0 (k + 1) y0 y1 y2))
 | 0 => fun _ _ _ r h => by simp [addrs_Mac.l0] at h
 | k + 1 => by
  have ih0 := addrs_Mac.mono_l k
  ·intro y0 y1 y2
   unfold addrs_Mac.l0
   repeat' first
   | (with_reducible exact ih0 _ _ _)
   | (with_reducible exact octets_Put.mono _ _ _)
   | (with_reducible exact LeO.refl _)
   | (with_reducible exact LeO.none _)
   | (with_reducible refine LeO.ite ?_ ?_)
   | (with_reducible refine LeO.bind ?_ (fun _ => ?_))
   | exact ih0 _ _ _
   | exact octets_Put.mono _ _ _
   | exact LeO.none _
   | refine LeO.ite ?_ ?_
   | refine LeO.bind ?_ (fun _ => ?_)
theorem addrs_Mac.mono : ∀ a0 k, LeO (addrs_Mac.f k a0) (addrs_Mac.f (k + 1) a0) := by
 intro a0 k
 have ih0 := addrs_Mac.mono_l k
 unfold addrs_Mac.f
 repeat' first
   | (with_reducible exact ih0 _ _ _)
   | (with_reducible exact octets_Put.mono _ _ _)
   | (with_reducible exact LeO.refl _)
   | (with_reducible exact LeO.none _)
   | (with_reducible refine LeO.ite ?_ ?_)
   | (with_reducible refine LeO.bind ?_ (fun _ => ?_))
   | exact ih0 _ _ _
   | exact octets_Put.mono _ _ _
   | exact LeO.none _
   | refine LeO.ite ?_ ?_
   | refine LeO.bind ?_ (fun _ => ?_)
set_option maxHeartbeats 8000000 in
set_option maxRecDepth 100000 in
theorem addrs_Mac.calls (k : Nat) (a0 : Int) (r : ByteArray) (w : World) (h : addrs_Mac.f k a0 = some r) :
  Calls Tryz.prog 14 #[.int .u64 a0] w fun e w' => e = .returned (.string r) ∧ Below w.heap.size w w' := by
 have HB := Aside0.mk (Below.refl w.heap.size w)
 have H := h
 unfold addrs_Mac.f at H
 clear h
 replace H := Option.bind_eq_some_iff.mp H
 obtain ⟨⟨t105, t106⟩, A20, H⟩ := H
 try dsimp only at H
 have A2 := Aside0.mk A20
 clear A20
 have H' := Aside0.mk H
 clear H
 go_enter Tryz.func14, Tryz.ntmps14
 go_wp2_with (first | ((with_reducible refine gate_callee (f := 37) rfl ?_); refine goesL_ (some 10) rfl rfl Tryz.func37 qg3m rfl #[.int .u64 (Int.tmod a0 281474976710656), .int .i64 6] rfl qraq ?_; (with_reducible refine (octets_Put.calls k (Int.tmod a0 281474976710656) 6 t105 t106 _ A2.out).mono ?_); rintro e w3 ⟨rfl, hb⟩; refine ⟨_, rfl, ?_⟩; replace HB := Aside0.mk (below_step qpag hb); (try clear hb); (try clear hb2); (try clear hk); (try clear hi)))
 go_loopg [5, 13] k (fun kq v5 v13 w' => ∃ (x5_1 : List ByteArray) (x13_1 : Int), v13 = .int .i64 x13_1 ∧ Aside0 (addrs_Mac.l0 kq t105 x5_1 x13_1 = some r) ∧ Aside0 (kq ≤ k) ∧ Aside0 (Kd.R Kd.string 9 w' w.heap.size (fun _ => True) v5 x5_1) ∧ Aside0 (Below w.heap.size w w'))
 case atStart => exact ⟨(([] : List ByteArray)), (0), q8z4, H', ⟨Nat.le_refl _⟩, ⟨qrh1⟩, ⟨qpag⟩⟩
 case round =>
  clear H'
  try clear c1
  try clear p2
  try clear c3
  obtain ⟨x5_1, x13_1, rfl, HA, HK1, HO_5, HB⟩ := hrel
  cases gk with
  | zero => exact absurd HA.out (by simp [addrs_Mac.l0])
  | succ k1 =>
   have H := HA.out
   clear HA
   simp only [addrs_Mac.l0] at H
   by_cases c4 : x13_1 < 6
   ·rw [if_pos c4] at H
    have c4b0 : decide (x13_1 < 6) = true := decide_eq_true c4
    clear c4
    by_cases c5 : 0 ≤ x13_1
    ·rw [if_pos c5] at H
     have c5b0 := eq_true c5
     have c5b1 : decide (0 ≤ x13_1) = true := decide_eq_true c5
     clear c5
     by_cases c6 : x13_1 ≤ (wrap64 (x13_1 + 1))
     ·rw [if_pos c6] at H
      have c6b0 := eq_true c6
      have c6b1 : decide (x13_1 ≤ (wrap64 (x13_1 + 1))) = true := decide_eq_true c6
      by_cases c7 : (wrap64 (x13_1 + 1)) ≤ (t105.size : Int)
      ·rw [if_pos c7] at H
       have c7b0 := eq_true c7
       have c7b1 : decide ((wrap64 (x13_1 + 1)) ≤ (t105.size : Int)) = true := decide_eq_true c7
       replace H := Option.bind_eq_some_iff.mp H
       obtain ⟨t107, A80, H⟩ := H
       try dsimp only at H
       have A8 := Aside0.mk A80
       clear A80
       by_cases c9 : x5_1.length < 8796093022208
       ·rw [if_pos c9] at H
        have LMc9 := Aside0.mk c9
        clear c9
        obtain ⟨y108, hy108⟩ : ∃ y_ : List ByteArray, y_ = (x5_1 ++ [t107]) := ⟨_, rfl⟩
        replace H : (addrs_Mac.l0 k1 t105 y108 (wrap64 (x13_1 + 1))) = some r := by first | (rw [hy108]; with_reducible exact H) | (have H2_ := (Option.bind_some _ _).symm.trans H; rw [hy108]; with_reducible exact H2_) | (have H2_ := (Option.bind_some _ _).symm.trans H; with_reducible exact H2_) | with_reducible exact H | (rw [hy108]; exact H) | exact H
        have Ny108 := Aside0.mk hy108
        clear hy108
        have H' := Aside0.mk H
        clear H
        go_wp2_with (first | ((with_reducible refine gate_callee (f := 38) rfl ?_); refine goesL_ (some 22) rfl rfl Tryz.func38 qg3m rfl #[.string (t105.extract (x13_1 : Int).toNat ((wrap64 (x13_1 + 1)) : Int).toNat)] rfl qraq ?_; (with_reducible refine (octets_Hex.calls (t105.extract (x13_1 : Int).toNat ((wrap64 (x13_1 + 1)) : Int).toNat) t107 _ A8.out).mono ?_); rintro e w10 ⟨rfl, hb⟩; refine ⟨_, rfl, ?_⟩; replace HO_5 := Aside0.mk (Kd.R_below qtvk hb); replace HB := Aside0.mk (below_step qpag hb); (try clear hb); (try clear hb2); (try clear hk); (try clear hi)) | ((with_reducible refine gate_builtin (b := .append) (xs := #[.tmp 16, .tmp 23]) rfl ?_); at_builtin; refine Kd.R_append Kd.string (w0 := w) w.heap.size rfl (.tmp 16) (.tmp 23) 49 9 (.string ⟨#[]⟩) 16 rfl Tryz.underlying49 info9 rfl qomw q1jy u5 x5_1 t107 [.string t107] (fun _ => True) (fun _ => False) rfl rfl ?aP (fun _ hk => hk.elim) ?aF ?aO ?aB ?aS ?aL ?_; (case aP => exact rfl); (case aB => exact qpag); (case aF => exact (fun _ _ => trivial)); (case aO => exact qtvk); (case aS => exact (below_size qpag)); (case aL => have := LMc9.out; omega); intro v109 w11 ho hb hg hat; rw [← Ny108.out] at ho; have n0_ := Aside0.mk (hb); have n1_ := Aside0.mk (ho); clear HB; clear HO_5; have HB := n0_; have HO110 := n1_; clear n0_ n1_; clear ho hb hg hat))
        go_roundg k1
        case measure => have := HK1.out; omega
        case rel => exact ⟨(y108), (wrap64 (x13_1 + 1)), q8z4, H', ⟨qi8h⟩, ⟨(by (with_reducible repeat (first | apply Kd.R_alloc | apply Kd.R_drewN | apply Kd.R_drew)); exact HO110.out)⟩, ⟨qpag⟩⟩
       ·rw [if_neg c9] at H
        exact absurd H q6hr
      ·rw [if_neg c7] at H
       exact absurd H q6hr
     ·rw [if_neg c6] at H
      exact absurd H q6hr
    ·rw [if_neg c5] at H
     exact absurd H q6hr
   ·rw [if_neg c4] at H
    have c4b0 : decide (x13_1 < 6) = false := decide_eq_false c4
    clear c4
    replace H := Option.bind_eq_some_iff.mp H
    obtain ⟨t111, A120, H⟩ := H
    try dsimp only at H
    have A12 := Aside0.mk A120
    clear A120
    obtain rfl := Option.some.inj H
    obtain ⟨Ao13, co13, eo13⟩ := Kd.R_slice HO_5.out
    subst eo13
    go_wp2_with (first | ((with_reducible refine gate_callee (f := 39) rfl ?_); refine goesL_ (some 27) rfl rfl Tryz.func39 qg3m rfl #[.slice Ao13 x5_1.length co13, .string (⟨#[58]⟩ : ByteArray)] rfl qraq ?_; (with_reducible refine (strings_Join.calls _ _ x5_1 (⟨#[58]⟩ : ByteArray) t111 _ ?side1 ?side2 A12.out).mono ?_); (case side1 => repeat (first | exact (Kd.R_reads' HO_5.out).2.2 | (with_reducible refine Kd.C_alloc ?_ _) | (with_reducible refine Kd.C_drewN ?_ _) | (with_reducible refine Kd.C_drew ?_))); (case side2 => exact (Kd.R_reads' HO_5.out).2.1); rintro e w14 ⟨rfl, hb⟩; refine ⟨_, rfl, ?_⟩; replace HO_5 := Aside0.mk (Kd.R_below qtvk hb); replace HB := Aside0.mk (below_step qpag hb); (try clear hb); (try clear hb2); (try clear hk); (try clear hi)))
    go_ret
    exact ⟨qxu5, qpag⟩

/-! ### strings_IndexByte: function 46, by hand -/
-- IMPORT Derived.Test.YtgdjekigkimhnaaGreatDoorShelf
def strings_IndexByte.f (a0 : ByteArray) (a1 : Int) : Option (Int) := some (Lib.indexByte a0.data.toList a1.toNat.toUInt8)
theorem strings_IndexByte.calls (a0 : ByteArray) (a1 : Int) (r : Int) (w : World) (h : strings_IndexByte.f a0 a1 = some r) :
  Calls Tryz.prog 46 #[.string a0, .int .u8 a1] w fun e w' => e = .returned (.int .i64 r) ∧ Drawn0 w w' := by
 obtain rfl := Option.some.inj h
 refine (Tryz.strings_IndexByte a0 a1 w).mono ?_
 rintro e w' ⟨rfl, rfl⟩
 exact ⟨rfl, ⟨0, rfl⟩⟩

end Go.Proofs.YtgdjekigkimhnaaGreatDoor.P
