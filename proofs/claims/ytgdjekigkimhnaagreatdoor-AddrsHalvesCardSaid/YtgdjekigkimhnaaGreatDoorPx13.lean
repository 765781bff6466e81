-- slim
-- Written by wip/hprint.py (this session's program) through the kit's print program; hand contracts are marked 'by hand'.
import Derived.Test.YtgdjekigkimhnaaGreatDoorAbb
import Derived.Test.YtgdjekigkimhnaaGreatDoorPx0
import Derived.Test.YtgdjekigkimhnaaGreatDoorPx17
namespace Go.Proofs.YtgdjekigkimhnaaGreatDoor.P
open Go.RowKit Go.Proofs.YtgdjekigkimhnaaGreatDoorW.PrintWords Go.Proofs.YtgdjekigkimhnaaGreatDoorW.PrintLast Go.Proofs.YtgdjekigkimhnaaGreatDoorW.PrintMore
attribute [local go_sem] max2_int min2_int max_two min_two max_three min_three max_four min_four   -- for this text's walks alone
set_option linter.unusedVariables false
set_option linter.unusedSimpArgs false

theorem qk4q {p : Prop} (h : p := by (with_reducible repeat (first | apply Kd.R_alloc | apply Kd.R_drewN | apply Kd.R_drew)); exact HO_10.out) : p := h
/-! ### addrs_ReadIp: function 11 -/
def addrs_ReadIp.l0 : Nat → ByteArray → Int → List ByteArray → Int → Int → Option (Int × Int)
 | 0, _, _, _, _, _ => none
 | k + 1, x0, x4, x10, x11, x12 => if x12 < x11 then (if 0 ≤ x12 then (if x12 < (x10.length : Int) then ((strconv_Atoi.f (rdOf ByteArray.empty x10 x12)).bind fun bt144 => (addrs_ReadIp.l0 k x0 (Go.bits .or .u32 ((x4 * 256) % 4294967296) ((bt144.1) % 256)) x10 x11 (wrap64 (x12 + 1)))) else (none)) else (none)) else ((addrs_Ip.f k x4).bind fun t146 => (if t146.toList = x0.toList then (some (x4, 0)) else (some (0, 20))))
def addrs_ReadIp.f (k : Nat) (a0 : ByteArray) : Option (Int × Int) := (strings_Split.f a0 (⟨#[46]⟩ : ByteArray)).bind fun t140 => (addrs_ReadIp.l0 k a0 0 t140 (t140.length : Int) 0)
theorem addrs_ReadIp.mono_l : ∀ k, (∀ y0 y1 y2 y3 y4, LeO (addrs_ReadIp.l0 k y0 y1 y2 y3 y4) (addrs_ReadIp.l0 (k + 1) y0 y1 y2 y3 y4))
 | 0 => fun _ _ _ _ _ r h => by simp [addrs_ReadIp.l0] at h
 | k + 1 => by
  have ih0 := addrs_ReadIp.mono_l k
  ·intro y0 y1 y2 y3 y4
   unfold addrs_ReadIp.l0
   repeat' first
   | (with_reducible exact ih0 _ _ _ _ _)
   | (with_reducible exact addrs_Ip.mono _ _)
   | (with_reducible exact LeO.refl _)
   | (with_reducible exact LeO.none _)
   | (with_reducible refine LeO.ite ?_ ?_)
   | (with_reducible refine LeO.bind ?_ (fun _ => ?_))
   | exact ih0 _ _ _ _ _
   | exact addrs_Ip.mono _ _
   | exact LeO.none _
   | refine LeO.ite ?_ ?_
   | refine LeO.bind ?_ (fun _ => ?_)
theorem addrs_ReadIp.mono : ∀ a0 k, LeO (addrs_ReadIp.f k a0) (addrs_ReadIp.f (k + 1) a0) := by
 intro a0 k
 have ih0 := addrs_ReadIp.mono_l k
 unfold addrs_ReadIp.f
 repeat' first
   | (with_reducible exact ih0 _ _ _ _ _)
   | (with_reducible exact addrs_Ip.mono _ _)
   | (with_reducible exact LeO.refl _)
   | (with_reducible exact LeO.none _)
   | (with_reducible refine LeO.ite ?_ ?_)
   | (with_reducible refine LeO.bind ?_ (fun _ => ?_))
   | exact ih0 _ _ _ _ _
   | exact addrs_Ip.mono _ _
   | exact LeO.none _
   | refine LeO.ite ?_ ?_
   | refine LeO.bind ?_ (fun _ => ?_)
theorem z13_0 {p : Prop} (h : p := by
 simp only [Option.some.injEq, Prod.mk.injEq] at H
 obtain ⟨rfl, rfl⟩ := H
 go_wp2_with (first | ((with_reducible refine gate_callee (f := 16) rfl ?_); refine goesL_ (some 29) rfl rfl Tryz.func16 qg3m rfl #[.int .u32 x4_1] rfl qraq ?_; (with_reducible refine (addrs_Ip.calls k1 x4_1 t146 _ ?sideL A10.out).mono ?_); (case sideL => exact laid_below HLD.out qpag); rintro e wz0 ⟨rfl, hb⟩; refine ⟨_, rfl, ?_⟩; replace HO_10 := Aside0.mk (Kd.R_below qk4q hb); replace HB := Aside0.mk (below_step qpag hb); (try clear hb); (try clear hb2); (try clear hk); (try clear hi)))
 go_ret2
 exact ⟨qxu5, qpag⟩) : p := h
set_option maxHeartbeats 8000000 in
set_option maxRecDepth 100000 in
theorem addrs_ReadIp.calls (k : Nat) (a0 : ByteArray) (r1 : Int) (r2 : Int) (w : World) (hL : Laid w) (h : addrs_ReadIp.f k a0 = some (r1, r2)) :
  Calls Tryz.prog 11 #[.string a0] w fun e w' => e = .returned (.tuple #[.int .u32 r1, .int .i64 r2]) ∧ Below w.heap.size w w' := by
 have HLD := Aside0.mk hL
 clear hL
 have HB := Aside0.mk (Below.refl w.heap.size w)
 have H := h
 unfold addrs_ReadIp.f at H
 clear h
 replace H := Option.bind_eq_some_iff.mp H
 obtain ⟨t140, A20, H⟩ := H
 try dsimp only at H
 have A2 := Aside0.mk A20
 clear A20
 have H' := Aside0.mk H
 clear H
 go_enter Tryz.func11, Tryz.ntmps11
 go_wp2_with (first | ((with_reducible refine gate_callee (f := 35) rfl ?_); refine goesL_ (some 10) rfl rfl Tryz.func35 qg3m rfl #[.string a0, .string (⟨#[46]⟩ : ByteArray)] rfl qraq ?_; (with_reducible refine (strings_Split.calls a0 (⟨#[46]⟩ : ByteArray) t140 _ ?sideL A2.out).mono ?_); (case sideL => exact laid_below HLD.out qpag); rintro e w3 ⟨v141, rfl, ho0, hb⟩; refine ⟨_, rfl, ?_⟩; have HO142 := Aside0.mk (Kd.R_lower ho0 (below_size qpag)); replace HB := Aside0.mk (below_step qpag hb); (try clear hb); (try clear hb2); (try clear hk); (try clear hi); (try clear ho0); obtain ⟨Ao4, co4, eo4⟩ := Kd.R_slice HO142.out; subst eo4))
 go_loopg [4, 12] k (fun kq v4 v12 w' => ∃ (x4_1 : Int) (x12_1 : Int), v4 = .int .u32 x4_1 ∧ v12 = .int .i64 x12_1 ∧ Aside0 (addrs_ReadIp.l0 kq a0 x4_1 t140 (t140.length : Int) x12_1 = some (r1, r2)) ∧ Aside0 (kq ≤ k) ∧ Aside0 (Kd.R Kd.string 9 w' w.heap.size (fun _ => True) (.slice Ao4 t140.length co4) t140) ∧ Aside0 (Below w.heap.size w w'))
 case atStart => exact ⟨(0), (0), q8z4, q8z4, H', ⟨Nat.le_refl _⟩, ⟨(by (with_reducible repeat (first | apply Kd.R_alloc | apply Kd.R_drewN | apply Kd.R_drew)); exact HO142.out)⟩, ⟨qpag⟩⟩
 case round =>
  clear H'
  try clear c1
  try clear p2
  try clear c3
  obtain ⟨x4_1, x12_1, rfl, rfl, HA, HK1, HO_10, HB⟩ := hrel
  cases gk with
  | zero => exact absurd HA.out (by simp [addrs_ReadIp.l0])
  | succ k1 =>
   have H := HA.out
   clear HA
   simp only [addrs_ReadIp.l0] at H
   by_cases c5 : x12_1 < (t140.length : Int)
   ·rw [if_pos c5] at H
    have c5b0 : decide (x12_1 < (t140.length : Int)) = true := decide_eq_true c5
    clear c5
    by_cases c6 : 0 ≤ x12_1
    ·rw [if_pos c6] at H
     have c6b0 : decide (0 ≤ x12_1) = true := decide_eq_true c6
     clear c6
     by_cases c7 : x12_1 < (t140.length : Int)
     ·rw [if_pos c7] at H
      have c7b0 : decide (x12_1 < (t140.length : Int)) = true := decide_eq_true c7
      clear c7
      replace H := Option.bind_eq_some_iff.mp H
      obtain ⟨⟨t144, t145⟩, A80, H⟩ := H
      try dsimp only at H
      have A8 := Aside0.mk A80
      clear A80
      have H' := Aside0.mk H
      clear H
      have p143 : 0 ≤ (x12_1 : Int) := of_decide_eq_true qlss
      have q143 : x12_1 < (t140.length : Int) := of_decide_eq_true qlss
      obtain ⟨ad143, e143, hx143_0⟩ := Kd.at_string (Kd.R_reads' HO_10.out).2.2 x12_1 p143 q143
      cases e143
      replace p143 := eq_true p143
      replace q143 := eq_true q143
      go_wp2_with (first | ((with_reducible refine gate_callee (f := 36) rfl ?_); refine goesL_ (some 18) rfl rfl Tryz.func36 qg3m rfl #[.string (rdOf ByteArray.empty t140 x12_1)] rfl qraq ?_; (with_reducible refine (strconv_Atoi.calls (rdOf ByteArray.empty t140 x12_1) t144 t145 _ ?sideL A8.out).mono ?_); (case sideL => exact laid_below HLD.out qpag); rintro e w9 ⟨⟨ev_, rfl⟩, hb⟩; refine ⟨_, rfl, ?_⟩; replace HO_10 := Aside0.mk (Kd.R_below qk4q hb); replace HB := Aside0.mk (below_step qpag hb); (try clear hb); (try clear hb2); (try clear hk); (try clear hi); (try simp only [errW_none, errW_some])))
      go_roundg k1
      case measure => have := HK1.out; omega
      case rel => exact ⟨(Go.bits .or .u32 ((x4_1 * 256) % 4294967296) ((t144) % 256)), (wrap64 (x12_1 + 1)), q8z4, q8z4, H', ⟨qi8h⟩, ⟨qk4q⟩, ⟨qpag⟩⟩
     ·rw [if_neg c7] at H
      exact absurd H q6hr
    ·rw [if_neg c6] at H
     exact absurd H q6hr
   ·rw [if_neg c5] at H
    have c5b0 : decide (x12_1 < (t140.length : Int)) = false := decide_eq_false c5
    clear c5
    replace H := Option.bind_eq_some_iff.mp H
    obtain ⟨t146, A100, H⟩ := H
    try dsimp only at H
    have A10 := Aside0.mk A100
    clear A100
    by_cases c11 : t146.toList = a0.toList
    ·rw [if_pos c11] at H
     have c11b0 : (t146.toList == a0.toList) = true := beq_iff_eq.mpr c11
     have c11b1 : (t146.toList != a0.toList) = false := bne_eq_false_iff_eq.mpr c11
     clear c11
     exact z13_0
    ·rw [if_neg c11] at H
     have c11b0 : (t146.toList == a0.toList) = false := beq_eq_false_iff_ne.mpr c11
     have c11b1 : (t146.toList != a0.toList) = true := bne_iff_ne.mpr c11
     exact z13_0
/-! ### gangwayref02_Num: function 43 -/
def gangwayref02_Num.f : Nat → Int → Option (ByteArray)
 | 0, _ => none
 | k + 1, a0 => (some (([(wrap64 (48 + (Int.tmod a0 10))) % 256] : List Int) : List Int)).bind fun y147 => (if a0 ≥ 10 then ((gangwayref02_Num.f k (wrap64 (Int.tdiv a0 10))).bind fun t150 => (if t150.size + (strOfNums y147).size ≤ 9223372036854775807 then (some (t150 ++ (strOfNums y147))) else (none))) else (some (strOfNums y147)))
theorem gangwayref02_Num.mono_l : ∀ k, (∀ y0, LeO (gangwayref02_Num.f k y0) (gangwayref02_Num.f (k + 1) y0))
 | 0 => fun _ r h => by simp [gangwayref02_Num.f] at h
 | k + 1 => by
  have ih0 := gangwayref02_Num.mono_l k
  ·intro y0
   unfold gangwayref02_Num.f
   repeat' first
   | (with_reducible exact ih0 _)
   | (with_reducible exact LeO.refl _)
   | (with_reducible exact LeO.none _)
   | (with_reducible refine LeO.ite ?_ ?_)
   | (with_reducible refine LeO.bind ?_ (fun _ => ?_))
   | exact ih0 _
   | exact LeO.none _
   | refine LeO.ite ?_ ?_
   | refine LeO.bind ?_ (fun _ => ?_)
theorem gangwayref02_Num.mono : ∀ a0 k, LeO (gangwayref02_Num.f k a0) (gangwayref02_Num.f (k + 1) a0) := by
 intro a0 k
 have ih0 := gangwayref02_Num.mono_l k
 exact ih0 a0
set_option maxHeartbeats 8000000 in
set_option maxRecDepth 100000 in
theorem gangwayref02_Num.calls (k : Nat) : ∀ (a0 : Int) (r : ByteArray) (w : World) (h : gangwayref02_Num.f k a0 = some r),
  Calls Tryz.prog 43 #[.int .i64 a0] w fun e w' => e = .returned (.string r) ∧ Below w.heap.size w w' := by
 induction k using Nat.strongRecOn with
 | _ k ih =>
 intro a0 r w h
 cases k with
 | zero => exact absurd h (by simp [gangwayref02_Num.f])
 | succ k =>
 simp only [gangwayref02_Num.f] at h
 have HB := Aside0.mk (Below.refl w.heap.size w)
 have H : ((some (([(wrap64 (48 + (Int.tmod a0 10))) % 256] : List Int) : List Int)).bind fun y147 => (if a0 ≥ 10 then ((gangwayref02_Num.f k (wrap64 (Int.tdiv a0 10))).bind fun t150 => (if t150.size + (strOfNums y147).size ≤ 9223372036854775807 then (some (t150 ++ (strOfNums y147))) else (none))) else (some (strOfNums y147)))) = some r := h
 clear h
 obtain ⟨y147, hy147⟩ : ∃ y_ : List Int, y_ = (([(wrap64 (48 + (Int.tmod a0 10))) % 256] : List Int)) := ⟨_, rfl⟩
 replace H : (if a0 ≥ 10 then ((gangwayref02_Num.f k (wrap64 (Int.tdiv a0 10))).bind fun t150 => (if t150.size + (strOfNums y147).size ≤ 9223372036854775807 then (some (t150 ++ (strOfNums y147))) else (none))) else (some (strOfNums y147))) = some r := by first | (rw [hy147]; with_reducible exact H) | (have H2_ := (Option.bind_some _ _).symm.trans H; rw [hy147]; with_reducible exact H2_) | (have H2_ := (Option.bind_some _ _).symm.trans H; with_reducible exact H2_) | with_reducible exact H | (rw [hy147]; exact H) | exact H
 have Ny147 := Aside0.mk hy147
 clear hy147
 by_cases c2 : a0 ≥ 10
 ·rw [if_pos c2] at H
  have c2b0 : decide (10 ≤ a0) = true := decide_eq_true c2
  clear c2
  replace H := Option.bind_eq_some_iff.mp H
  obtain ⟨t150, A30, H⟩ := H
  try dsimp only at H
  have A3 := Aside0.mk A30
  clear A30
  by_cases c4 : t150.size + (strOfNums y147).size ≤ 9223372036854775807
  ·rw [if_pos c4] at H
   have c4b0 := eq_true c4
   have c4b1 : decide (t150.size + (strOfNums y147).size ≤ 9223372036854775807) = true := decide_eq_true c4
   try have c4b2 : (9223372036854775807 < t150.size + (strOfNums y147).size) = False := eq_false (Nat.not_lt.2 c4)
   obtain rfl := Option.some.inj H
   go_enter Tryz.func43, Tryz.ntmps43
   go_wp2_with (first | ((with_reducible refine gate_dst (N := 8) rfl ?_); refine Kd.R_lit (Kd.int .u8) _ 5 ?hg (N := 8) ?hd (xs := ([(wrap64 (48 + (Int.tmod a0 10))) % 256] : List Int)) (inner := [.int .u8 ((wrap64 (48 + (Int.tmod a0 10))) % 256)]) (ok := fun _ => True) (okp := fun _ => True) ?hr ?hp (fun _ hk => hk) trivial (Below.refl _ _) (Nat.le_refl _) q6hr ?_; (case hd => rfl); (case hg => rfl); (case hr => first | (go_simp; done) | (go_simp; rfl)); (case hp => exact (Reps.one (show Kd.M (Kd.int .u8) _ _ _ ((wrap64 (48 + (Int.tmod a0 10))) % 256) [.int .u8 ((wrap64 (48 + (Int.tmod a0 10))) % 256)] from rfl) (Reps.none _ _))); intro v148 w5 ho6 hb hg_ hnew_; clear hg_ hnew_; (first | rw [← Ny147.out] at ho6 | (simp only [Int.reduceToNat] at ho6; rw [← Ny147.out] at ho6)); have HO149 := Aside0.mk (Kd.R_lower ho6 (below_size qpag)); replace HB := Aside0.mk (below_step qpag hb); clear hb ho6; have hcv7 := own_string (P := Tryz.prog) Tryz.underlying62 Tryz.underlying5 Tryz.underlying9 (Kd.own_of_R HO149.out)) | ((with_reducible refine gate_callee (f := 43) rfl ?_); refine goesL_ (some 14) rfl rfl Tryz.func43 qg3m rfl #[.int .i64 (wrap64 (Int.tdiv a0 10))] rfl qraq ?_; (with_reducible refine (ih k q1jy (wrap64 (Int.tdiv a0 10)) t150 _ A3.out).mono ?_); rintro e w8 ⟨rfl, hb⟩; refine ⟨_, rfl, ?_⟩; replace HO149 := Aside0.mk (Kd.R_below (by (with_reducible repeat (first | apply Kd.R_alloc | apply Kd.R_drewN | apply Kd.R_drew)); exact HO149.out) hb); replace HB := Aside0.mk (below_step qpag hb); (try clear hb); (try clear hb2); (try clear hk); (try clear hi)))
   go_ret
   exact ⟨qxu5, qpag⟩
  ·rw [if_neg c4] at H
   exact absurd H q6hr
 ·rw [if_neg c2] at H
  have c2b0 : decide (10 ≤ a0) = false := decide_eq_false c2
  clear c2
  obtain rfl := Option.some.inj H
  go_enter Tryz.func43, Tryz.ntmps43
  go_wp2_with (first | ((with_reducible refine gate_dst (N := 8) rfl ?_); refine Kd.R_lit (Kd.int .u8) _ 5 ?hg (N := 8) ?hd (xs := ([(wrap64 (48 + (Int.tmod a0 10))) % 256] : List Int)) (inner := [.int .u8 ((wrap64 (48 + (Int.tmod a0 10))) % 256)]) (ok := fun _ => True) (okp := fun _ => True) ?hr ?hp (fun _ hk => hk) trivial (Below.refl _ _) (Nat.le_refl _) q6hr ?_; (case hd => rfl); (case hg => rfl); (case hr => first | (go_simp; done) | (go_simp; rfl)); (case hp => exact (Reps.one (show Kd.M (Kd.int .u8) _ _ _ ((wrap64 (48 + (Int.tmod a0 10))) % 256) [.int .u8 ((wrap64 (48 + (Int.tmod a0 10))) % 256)] from rfl) (Reps.none _ _))); intro v148 w9 ho10 hb hg_ hnew_; clear hg_ hnew_; (first | rw [← Ny147.out] at ho10 | (simp only [Int.reduceToNat] at ho10; rw [← Ny147.out] at ho10)); have HO149 := Aside0.mk (Kd.R_lower ho10 (below_size qpag)); replace HB := Aside0.mk (below_step qpag hb); clear hb ho10; have hcv11 := own_string (P := Tryz.prog) Tryz.underlying62 Tryz.underlying5 Tryz.underlying9 (Kd.own_of_R HO149.out)))
  go_ret
  exact ⟨qxu5, qpag⟩
end Go.Proofs.YtgdjekigkimhnaaGreatDoor.P
namespace Go.Proofs.YtgdjekigkimhnaaGreatDoor.P
open Go.RowKit Go.Proofs.YtgdjekigkimhnaaGreatDoorW.PrintWords Go.Proofs.YtgdjekigkimhnaaGreatDoorW.PrintLast Go.Proofs.YtgdjekigkimhnaaGreatDoorW.PrintMore
attribute [local go_sem] max2_int min2_int max_two min_two max_three min_three max_four min_four   -- for this text's walks alone
set_option linter.unusedVariables false
set_option linter.unusedSimpArgs false

/-! ### gangwayref01_Bytes: function 40 -/
def gangwayref01_Bytes.l0 : Nat → Int → Int → ByteArray → Int → Option (ByteArray)
 | 0, _, _, _, _ => none
 | k + 1, x0, x1, x5, x6 => if x6 < x1 then ((some (([(Int.tmod x0 256) % 256] : List Int) : List Int)).bind fun y190 => (if (strOfNums y190).size + x5.size ≤ 9223372036854775807 then (gangwayref01_Bytes.l0 k (IntKind.u64.wrap (Int.tdiv x0 256)) x1 ((strOfNums y190) ++ x5) (wrap64 (x6 + 1))) else (none))) else (some x5)
def gangwayref01_Bytes.f (k : Nat) (a0 : Int) (a1 : Int) : Option (ByteArray) := gangwayref01_Bytes.l0 k a0 a1 (⟨#[]⟩ : ByteArray) 0
theorem gangwayref01_Bytes.mono_l : ∀ k, (∀ y0 y1 y2 y3, LeO (gangwayref01_Bytes.l0 k y0 y1 y2 y3) (gangwayref01_Bytes.l0 (k + 1) y0 y1 y2 y3))
 | 0 => fun _ _ _ _ r h => by simp [gangwayref01_Bytes.l0] at h
 | k + 1 => by
  have ih0 := gangwayref01_Bytes.mono_l k
  ·intro y0 y1 y2 y3
   unfold gangwayref01_Bytes.l0
   repeat' first
   | (with_reducible exact ih0 _ _ _ _)
   | (with_reducible exact LeO.refl _)
   | (with_reducible exact LeO.none _)
   | (with_reducible refine LeO.ite ?_ ?_)
   | (with_reducible refine LeO.bind ?_ (fun _ => ?_))
   | exact ih0 _ _ _ _
   | exact LeO.none _
   | refine LeO.ite ?_ ?_
   | refine LeO.bind ?_ (fun _ => ?_)
theorem gangwayref01_Bytes.mono : ∀ a0 a1 k, LeO (gangwayref01_Bytes.f k a0 a1) (gangwayref01_Bytes.f (k + 1) a0 a1) := by
 intro a0 a1 k
 have ih0 := gangwayref01_Bytes.mono_l k
 unfold gangwayref01_Bytes.f
 repeat' first
   | (with_reducible exact ih0 _ _ _ _)
   | (with_reducible exact LeO.refl _)
   | (with_reducible exact LeO.none _)
   | (with_reducible refine LeO.ite ?_ ?_)
   | (with_reducible refine LeO.bind ?_ (fun _ => ?_))
   | exact ih0 _ _ _ _
   | exact LeO.none _
   | refine LeO.ite ?_ ?_
   | refine LeO.bind ?_ (fun _ => ?_)
theorem z22_0 {p : Prop} (h : p := by
 go_wp2
 go_ret
 exact ⟨qxu5, qpag⟩) : p := h
theorem z22_1 {p : Prop} (h : p := by
 clear c2
 obtain rfl := Option.some.inj H
 go_enter Tryz.func58, Tryz.ntmps58
 go_wp2
 go_ret
 exact ⟨q8z4, qlmv⟩) : p := h
set_option maxHeartbeats 8000000 in
set_option maxRecDepth 100000 in
theorem gangwayref01_Bytes.calls (k : Nat) (a0 : Int) (a1 : Int) (r : ByteArray) (w : World) (h : gangwayref01_Bytes.f k a0 a1 = some r) :
  Calls Tryz.prog 40 #[.int .u64 a0, .int .i64 a1] w fun e w' => e = .returned (.string r) ∧ Below w.heap.size w w' := by
 have HB := Aside0.mk (Below.refl w.heap.size w)
 have H := h
 unfold gangwayref01_Bytes.f at H
 clear h
 have H' := Aside0.mk H
 clear H
 go_enter Tryz.func40, Tryz.ntmps40
 go_wp2
 go_loopg [0, 5, 6] k (fun kq v0 v5 v6 w' => ∃ (x0_1 : Int) (x5_1 : ByteArray) (x6_1 : Int), v0 = .int .u64 x0_1 ∧ v5 = .string x5_1 ∧ v6 = .int .i64 x6_1 ∧ Aside0 (gangwayref01_Bytes.l0 kq x0_1 a1 x5_1 x6_1 = some r) ∧ Aside0 (kq ≤ k) ∧ Aside0 (Below w.heap.size w w'))
 case atStart => exact ⟨(a0), ((⟨#[]⟩ : ByteArray)), (0), q8z4, q8z4, q8z4, H', ⟨Nat.le_refl _⟩, ⟨qpag⟩⟩
 case round =>
  clear H'
  try clear p2
  obtain ⟨x0_1, x5_1, x6_1, rfl, rfl, rfl, HA, HK1, HB⟩ := hrel
  cases gk with
  | zero => exact absurd HA.out (by simp [gangwayref01_Bytes.l0])
  | succ k1 =>
   have H := HA.out
   clear HA
   simp only [gangwayref01_Bytes.l0] at H
   by_cases c3 : x6_1 < a1
   ·rw [if_pos c3] at H
    have c3b0 : decide (x6_1 < a1) = true := decide_eq_true c3
    clear c3
    obtain ⟨y190, hy190⟩ : ∃ y_ : List Int, y_ = (([(Int.tmod x0_1 256) % 256] : List Int)) := ⟨_, rfl⟩
    replace H : (if (strOfNums y190).size + x5_1.size ≤ 9223372036854775807 then (gangwayref01_Bytes.l0 k1 (IntKind.u64.wrap (Int.tdiv x0_1 256)) a1 ((strOfNums y190) ++ x5_1) (wrap64 (x6_1 + 1))) else (none)) = some r := by first | (rw [hy190]; with_reducible exact H) | (have H2_ := (Option.bind_some _ _).symm.trans H; rw [hy190]; with_reducible exact H2_) | (have H2_ := (Option.bind_some _ _).symm.trans H; with_reducible exact H2_) | with_reducible exact H | (rw [hy190]; exact H) | exact H
    have Ny190 := Aside0.mk hy190
    clear hy190
    by_cases c4 : (strOfNums y190).size + x5_1.size ≤ 9223372036854775807
    ·rw [if_pos c4] at H
     have c4b0 := eq_true c4
     have c4b1 : decide ((strOfNums y190).size + x5_1.size ≤ 9223372036854775807) = true := decide_eq_true c4
     try have c4b2 : (9223372036854775807 < (strOfNums y190).size + x5_1.size) = False := eq_false (Nat.not_lt.2 c4)
     have H' := Aside0.mk H
     clear H
     go_wp2_with (first | ((with_reducible refine gate_dst (N := 15) rfl ?_); refine Kd.R_lit (Kd.int .u8) _ 5 ?hg (N := 15) ?hd (xs := ([(Int.tmod x0_1 256) % 256] : List Int)) (inner := [.int .u8 ((Int.tmod x0_1 256) % 256)]) (ok := fun _ => True) (okp := fun _ => True) ?hr ?hp (fun _ hk => hk) trivial (Below.refl _ _) (Nat.le_refl _) q6hr ?_; (case hd => rfl); (case hg => rfl); (case hr => first | (go_simp; done) | (go_simp; rfl)); (case hp => exact (Reps.one (show Kd.M (Kd.int .u8) _ _ _ ((Int.tmod x0_1 256) % 256) [.int .u8 ((Int.tmod x0_1 256) % 256)] from rfl) (Reps.none _ _))); intro v191 w5 ho6 hb hg_ hnew_; clear hg_ hnew_; (first | rw [← Ny190.out] at ho6 | (simp only [Int.reduceToNat] at ho6; rw [← Ny190.out] at ho6)); have HO192 := Aside0.mk (Kd.R_lower ho6 (below_size qpag)); replace HB := Aside0.mk (below_step qpag hb); clear hb ho6; have hcv7 := own_string (P := Tryz.prog) Tryz.underlying62 Tryz.underlying5 Tryz.underlying9 (Kd.own_of_R HO192.out)))
     go_roundg k1
     case measure => have := HK1.out; omega
     case rel => exact ⟨(IntKind.u64.wrap (Int.tdiv x0_1 256)), ((strOfNums y190) ++ x5_1), (wrap64 (x6_1 + 1)), q8z4, q8z4, q8z4, H', ⟨qi8h⟩, ⟨qpag⟩⟩
    ·rw [if_neg c4] at H
     exact absurd H q6hr
   ·rw [if_neg c3] at H
    have c3b0 : decide (x6_1 < a1) = false := decide_eq_false c3
    clear c3
    obtain rfl := Option.some.inj H
    exact z22_0
/-! ### gangwayref01_digit: function 58 -/
def gangwayref01_digit.f (a0 : Int) : Option (Int) := if a0 < 10 then (some ((48 + a0) % 256)) else (some ((87 + a0) % 256))
set_option maxHeartbeats 8000000 in
set_option maxRecDepth 100000 in
theorem gangwayref01_digit.calls (a0 : Int) (r : Int) (w : World) (h : gangwayref01_digit.f a0 = some r) :
  Calls Tryz.prog 58 #[.int .u8 a0] w fun e w' => e = .returned (.int .u8 r) ∧ Drawn0 w w' := by
 have H := h
 unfold gangwayref01_digit.f at H
 clear h
 by_cases c2 : a0 < 10
 ·rw [if_pos c2] at H
  have c2b0 : decide (a0 < 10) = true := decide_eq_true c2
  exact z22_1
 ·rw [if_neg c2] at H
  have c2b0 : decide (a0 < 10) = false := decide_eq_false c2
  exact z22_1
/-! ### gangwayref01_Hex: function 41 -/
def gangwayref01_Hex.l0 : Nat → ByteArray → List Int → Int → Option (ByteArray)
 | 0, _, _, _ => none
 | k + 1, x0, x3, x4 => if x4 < (x0.size : Int) then (if 0 ≤ x4 then ((gangwayref01_digit.f ((Int.tdiv (bt x0 x4) 16) % 256)).bind fun t196 => (if x3.length < 140737488355328 then ((some (x3 ++ [t196] : List Int)).bind fun y197 => ((gangwayref01_digit.f (Int.tmod (bt x0 x4) 16)).bind fun t200 => (if y197.length < 140737488355328 then (gangwayref01_Hex.l0 k x0 (y197 ++ [t200]) (wrap64 (x4 + 1))) else (none)))) else (none))) else (none)) else (some (strOfNums x3))
def gangwayref01_Hex.f (k : Nat) (a0 : ByteArray) : Option (ByteArray) := gangwayref01_Hex.l0 k a0 (([] : List Int)) 0
theorem gangwayref01_Hex.mono_l : ∀ k, (∀ y0 y1 y2, LeO (gangwayref01_Hex.l0 k y0 y1 y2) (gangwayref01_Hex.l0 (k + 1) y0 y1 y2))
 | 0 => fun _ _ _ r h => by simp [gangwayref01_Hex.l0] at h
 | k + 1 => by
  have ih0 := gangwayref01_Hex.mono_l k
  ·intro y0 y1 y2
   unfold gangwayref01_Hex.l0
   repeat' first
   | (with_reducible exact ih0 _ _ _)
   | (with_reducible exact LeO.refl _)
   | (with_reducible exact LeO.none _)
   | (with_reducible refine LeO.ite ?_ ?_)
   | (with_reducible refine LeO.bind ?_ (fun _ => ?_))
   | exact ih0 _ _ _
   | exact LeO.none _
   | refine LeO.ite ?_ ?_
   | refine LeO.bind ?_ (fun _ => ?_)
theorem gangwayref01_Hex.mono : ∀ a0 k, LeO (gangwayref01_Hex.f k a0) (gangwayref01_Hex.f (k + 1) a0) := by
 intro a0 k
 have ih0 := gangwayref01_Hex.mono_l k
 unfold gangwayref01_Hex.f
 repeat' first
   | (with_reducible exact ih0 _ _ _)
   | (with_reducible exact LeO.refl _)
   | (with_reducible exact LeO.none _)
   | (with_reducible refine LeO.ite ?_ ?_)
   | (with_reducible refine LeO.bind ?_ (fun _ => ?_))
   | exact ih0 _ _ _
   | exact LeO.none _
   | refine LeO.ite ?_ ?_
   | refine LeO.bind ?_ (fun _ => ?_)
set_option maxHeartbeats 8000000 in
set_option maxRecDepth 100000 in
theorem gangwayref01_Hex.calls (k : Nat) (a0 : ByteArray) (r : ByteArray) (w : World) (h : gangwayref01_Hex.f k a0 = some r) :
  Calls Tryz.prog 41 #[.string a0] w fun e w' => e = .returned (.string r) ∧ Below w.heap.size w w' := by
 have HB := Aside0.mk (Below.refl w.heap.size w)
 have H := h
 unfold gangwayref01_Hex.f at H
 clear h
 obtain ⟨y193, hy193⟩ : ∃ y_ : List Int, y_ = (([] : List Int)) := ⟨_, rfl⟩
 replace H : (gangwayref01_Hex.l0 k a0 y193 0) = some r := by first | (rw [hy193]; with_reducible exact H) | (have H2_ := (Option.bind_some _ _).symm.trans H; rw [hy193]; with_reducible exact H2_) | (have H2_ := (Option.bind_some _ _).symm.trans H; with_reducible exact H2_) | with_reducible exact H | (rw [hy193]; exact H) | exact H
 have Ny193 := Aside0.mk hy193
 clear hy193
 have H' := Aside0.mk H
 clear H
 go_enter Tryz.func41, Tryz.ntmps41
 go_wp2_with (first | ((with_reducible refine gate_dst (N := 5) rfl ?_); refine Kd.R_lit (Kd.int .u8) _ 5 ?hg (N := 5) ?hd (xs := ([] : List Int)) (inner := []) (ok := fun _ => True) (okp := fun _ => True) ?hr ?hp (fun _ hk => hk) trivial (Below.refl _ _) (Nat.le_refl _) q6hr ?_; (case hd => rfl); (case hg => rfl); (case hr => first | (go_simp; done) | (go_simp; rfl)); (case hp => exact (Reps.none _ _)); intro v194 w2 ho3 hb hg_ hnew_; clear hg_ hnew_; (first | rw [← Ny193.out] at ho3 | (simp only [Int.reduceToNat] at ho3; rw [← Ny193.out] at ho3)); have HO195 := Aside0.mk (Kd.R_lower ho3 (below_size qpag)); replace HB := Aside0.mk (below_step qpag hb); clear hb ho3))
 go_loopg [3, 4] k (fun kq v3 v4 w' => ∃ (x3_1 : List Int) (x4_1 : Int), v4 = .int .i64 x4_1 ∧ Aside0 (gangwayref01_Hex.l0 kq a0 x3_1 x4_1 = some r) ∧ Aside0 (kq ≤ k) ∧ Aside0 (Kd.R (Kd.int .u8) 5 w' w.heap.size (fun _ => True) v3 x3_1) ∧ Aside0 (Below w.heap.size w w'))
 case atStart => exact ⟨(y193), (0), q8z4, H', ⟨Nat.le_refl _⟩, ⟨(by (with_reducible repeat (first | apply Kd.R_alloc | apply Kd.R_drewN | apply Kd.R_drew)); exact HO195.out)⟩, ⟨qpag⟩⟩
 case round =>
  clear H'
  try clear p2
  obtain ⟨x3_1, x4_1, rfl, HA, HK1, HO_3, HB⟩ := hrel
  cases gk with
  | zero => exact absurd HA.out (by simp [gangwayref01_Hex.l0])
  | succ k1 =>
   have H := HA.out
   clear HA
   simp only [gangwayref01_Hex.l0] at H
   by_cases c4 : x4_1 < (a0.size : Int)
   ·rw [if_pos c4] at H
    have c4b0 : decide (x4_1 < (a0.size : Int)) = true := decide_eq_true c4
    clear c4
    by_cases c5 : 0 ≤ x4_1
    ·rw [if_pos c5] at H
     have c5b0 : decide (0 ≤ x4_1) = true := decide_eq_true c5
     clear c5
     replace H := Option.bind_eq_some_iff.mp H
     obtain ⟨t196, A70, H⟩ := H
     try dsimp only at H
     have A7 := Aside0.mk A70
     clear A70
     by_cases c8 : x3_1.length < 140737488355328
     ·rw [if_pos c8] at H
      have LMc8 := Aside0.mk c8
      clear c8
      obtain ⟨y197, hy197⟩ : ∃ y_ : List Int, y_ = (x3_1 ++ [t196]) := ⟨_, rfl⟩
      replace H : ((gangwayref01_digit.f (Int.tmod (bt a0 x4_1) 16)).bind fun t200 => (if y197.length < 140737488355328 then (gangwayref01_Hex.l0 k1 a0 (y197 ++ [t200]) (wrap64 (x4_1 + 1))) else (none))) = some r := by first | (rw [hy197]; with_reducible exact H) | (have H2_ := (Option.bind_some _ _).symm.trans H; rw [hy197]; with_reducible exact H2_) | (have H2_ := (Option.bind_some _ _).symm.trans H; with_reducible exact H2_) | with_reducible exact H | (rw [hy197]; exact H) | exact H
      have Ny197 := Aside0.mk hy197
      clear hy197
      replace H := Option.bind_eq_some_iff.mp H
      obtain ⟨t200, A100, H⟩ := H
      try dsimp only at H
      have A10 := Aside0.mk A100
      clear A100
      by_cases c11 : y197.length < 140737488355328
      ·rw [if_pos c11] at H
       have LMc11 := Aside0.mk c11
       clear c11
       obtain ⟨y201, hy201⟩ : ∃ y_ : List Int, y_ = (y197 ++ [t200]) := ⟨_, rfl⟩
       replace H : (gangwayref01_Hex.l0 k1 a0 y201 (wrap64 (x4_1 + 1))) = some r := by first | (rw [hy201]; with_reducible exact H) | (have H2_ := (Option.bind_some _ _).symm.trans H; rw [hy201]; with_reducible exact H2_) | (have H2_ := (Option.bind_some _ _).symm.trans H; with_reducible exact H2_) | with_reducible exact H | (rw [hy201]; exact H) | exact H
       have Ny201 := Aside0.mk hy201
       clear hy201
       have H' := Aside0.mk H
       clear H
       have p6 : 0 ≤ (x4_1 : Int) := of_decide_eq_true qlss
       have q6 : x4_1 < (a0.size : Int) := of_decide_eq_true qlss
       have hx6 := bt_at a0 x4_1
       replace p6 := eq_true p6
       replace q6 := eq_true q6
       go_wp2_with (first | ((with_reducible refine gate_callee (f := 58) rfl ?_); refine goesL_ (some 17) rfl rfl Tryz.func58 qg3m rfl #[.int .u8 ((Int.tdiv (bt a0 x4_1) 16) % 256)] rfl qraq ?_; (with_reducible refine (gangwayref01_digit.calls ((Int.tdiv (bt a0 x4_1) 16) % 256) t196 _ A7.out).mono ?_); rintro e w' ⟨rfl, ⟨nd, rfl⟩⟩; refine ⟨_, rfl, ?_⟩) | ((with_reducible refine gate_builtin (b := .append) (xs := #[.tmp 12, .tmp 18]) rfl ?_); at_builtin; refine Kd.R_append (Kd.int .u8) (w0 := w) w.heap.size rfl (.tmp 12) (.tmp 18) 62 5 (.int .u8 0) 1 rfl Tryz.underlying62 info5 rfl qomw q1jy u3 x3_1 t196 [.int .u8 t196] (fun _ => True) (fun _ => False) rfl rfl ?aP (fun _ hk => hk.elim) ?aF ?aO ?aB ?aS ?aL ?_; (case aP => exact rfl); (case aB => exact qpag); (case aF => exact (fun _ _ => trivial)); (case aO => exact qzej); (case aS => exact (below_size qpag)); (case aL => have := LMc8.out; omega); intro v198 w12 ho hb hg hat; rw [← Ny197.out] at ho; have n0_ := Aside0.mk (hb); have n1_ := Aside0.mk (ho); clear HB; clear HO_3; have HB := n0_; have HO199 := n1_; clear n0_ n1_; clear ho hb hg hat; have p9 : 0 ≤ (x4_1 : Int) := of_decide_eq_true qlss; have q9 : x4_1 < (a0.size : Int) := of_decide_eq_true qlss; have hx9 := bt_at a0 x4_1; replace p9 := eq_true p9; replace q9 := eq_true q9) | ((with_reducible refine gate_callee (f := 58) rfl ?_); refine goesL_ (some 25) rfl rfl Tryz.func58 qg3m rfl #[.int .u8 (Int.tmod (bt a0 x4_1) 16)] rfl qraq ?_; (with_reducible refine (gangwayref01_digit.calls (Int.tmod (bt a0 x4_1) 16) t200 _ A10.out).mono ?_); rintro e w' ⟨rfl, ⟨nd, rfl⟩⟩; refine ⟨_, rfl, ?_⟩) | ((with_reducible refine gate_builtin (b := .append) (xs := #[.tmp 20, .tmp 26]) rfl ?_); at_builtin; refine Kd.R_append (Kd.int .u8) (w0 := w) w.heap.size rfl (.tmp 20) (.tmp 26) 62 5 (.int .u8 0) 1 rfl Tryz.underlying62 info5 rfl qomw q1jy v198 y197 t200 [.int .u8 t200] (fun _ => True) (fun _ => False) rfl rfl ?aP (fun _ hk => hk.elim) ?aF ?aO ?aB ?aS ?aL ?_; (case aP => exact rfl); (case aB => exact qpag); (case aF => exact (fun _ _ => trivial)); (case aO => exact (by (with_reducible repeat (first | apply Kd.R_alloc | apply Kd.R_drewN | apply Kd.R_drew)); exact HO199.out)); (case aS => exact (below_size qpag)); (case aL => have := LMc11.out; omega); intro v202 w13 ho hb hg hat; rw [← Ny201.out] at ho; have n0_ := Aside0.mk (hb); have n1_ := Aside0.mk (ho); clear HB; clear HO199; have HB := n0_; have HO203 := n1_; clear n0_ n1_; clear ho hb hg hat))
       go_roundg k1
       case measure => have := HK1.out; omega
       case rel => exact ⟨(y201), (wrap64 (x4_1 + 1)), q8z4, H', ⟨qi8h⟩, ⟨(by (with_reducible repeat (first | apply Kd.R_alloc | apply Kd.R_drewN | apply Kd.R_drew)); exact HO203.out)⟩, ⟨qpag⟩⟩
      ·rw [if_neg c11] at H
       exact absurd H q6hr
     ·rw [if_neg c8] at H
      exact absurd H q6hr
    ·rw [if_neg c5] at H
     exact absurd H q6hr
   ·rw [if_neg c4] at H
    have c4b0 : decide (x4_1 < (a0.size : Int)) = false := decide_eq_false c4
    clear c4
    obtain rfl := Option.some.inj H
    have hcv14 := own_string (P := Tryz.prog) Tryz.underlying62 Tryz.underlying5 Tryz.underlying9 (Kd.own_of_R HO_3.out)
    exact z22_0
end Go.Proofs.YtgdjekigkimhnaaGreatDoor.P
