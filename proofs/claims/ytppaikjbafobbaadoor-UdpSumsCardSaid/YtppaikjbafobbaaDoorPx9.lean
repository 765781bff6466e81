-- Written by wip/hprint.py (this session's program) through the kit's print program; hand contracts are marked 'by hand'.
import Derived.Test.YtppaikjbafobbaaDoorPx0
import Derived.Test.YtppaikjbafobbaaDoorPx8
namespace Go.Proofs.YtppaikjbafobbaaDoor.P
open Go.RowKit Go.Proofs.YtppaikjbafobbaaDoorW.PrintWords Go.Proofs.YtppaikjbafobbaaDoorW.PrintLast Go.Proofs.YtppaikjbafobbaaDoorW.PrintMore
attribute [local go_sem] max2_int min2_int max_two min_two max_three min_three max_four min_four   -- for this text's walks alone
set_option linter.unusedVariables false
set_option linter.unusedSimpArgs false

/-! ### gangwayref03_Total: function 29 -/
def gangwayref03_Total.l0 : Nat → ByteArray → Int → Int → Option (Int)
  | 0, _, _, _ => none
  | k + 1, x0, x3, x4 => if x4 < (x0.size : Int) then (if (Int.tmod x4 2) = 0 then (if 0 ≤ x4 then (gangwayref03_Total.l0 k x0 (wrap64 (x3 + (wrap64 (256 * (wrap64 (bt x0 x4)))))) (wrap64 (x4 + 1))) else (none)) else (if 0 ≤ x4 then (gangwayref03_Total.l0 k x0 (wrap64 (x3 + (wrap64 (bt x0 x4)))) (wrap64 (x4 + 1))) else (none))) else (some x3)
def gangwayref03_Total.f (k : Nat) (a0 : ByteArray) : Option (Int) := gangwayref03_Total.l0 k a0 0 0
theorem gangwayref03_Total.mono_l : ∀ k, (∀ y0 y1 y2, LeO (gangwayref03_Total.l0 k y0 y1 y2) (gangwayref03_Total.l0 (k + 1) y0 y1 y2))
  | 0 => fun _ _ _ r h => by simp [gangwayref03_Total.l0] at h
  | k + 1 => by
    have ih0 := gangwayref03_Total.mono_l k
    · intro y0 y1 y2
      unfold gangwayref03_Total.l0
      repeat' first
      | (with_reducible exact ih0 _ _ _)
      | (with_reducible exact LeO.refl _)
      | (with_reducible exact LeO.none _)
      | (with_reducible refine LeO.ite ?_ ?_)
      | (with_reducible refine LeO.bind ?_ (fun _ => ?_))
      | exact ih0 _ _ _
      | exact LeO.none _
      | refine LeO.ite ?_ ?_
      | refine LeO.bind ?_ (fun _ => ?_)
theorem gangwayref03_Total.mono : ∀ a0 k, LeO (gangwayref03_Total.f k a0) (gangwayref03_Total.f (k + 1) a0) := by
  intro a0 k
  have ih0 := gangwayref03_Total.mono_l k
  unfold gangwayref03_Total.f
  repeat' first
      | (with_reducible exact ih0 _ _ _)
      | (with_reducible exact LeO.refl _)
      | (with_reducible exact LeO.none _)
      | (with_reducible refine LeO.ite ?_ ?_)
      | (with_reducible refine LeO.bind ?_ (fun _ => ?_))
      | exact ih0 _ _ _
      | exact LeO.none _
      | refine LeO.ite ?_ ?_
      | refine LeO.bind ?_ (fun _ => ?_)
set_option maxHeartbeats 8000000 in
set_option maxRecDepth 100000 in
theorem gangwayref03_Total.calls (k : Nat) (a0 : ByteArray) (r : Int) (w : World) (h : gangwayref03_Total.f k a0 = some r) :
    Calls Tryd.prog 29 #[.string a0] w fun e w' => e = .returned (.int .i64 r) ∧ Drawn0 w w' := by
  have H : (gangwayref03_Total.l0 k a0 0 0) = some r := h
  clear h
  have H' := Aside0.mk H
  clear H
  go_enter Tryd.func29, Tryd.ntmps29
  go_wp2
  go_loopg [3, 4] k (fun kq v3 v4 w' => ∃ (x3_1 : Int) (x4_1 : Int), v3 = .int .i64 x3_1 ∧ v4 = .int .i64 x4_1 ∧ Aside0 (gangwayref03_Total.l0 kq a0 x3_1 x4_1 = some r) ∧ Aside0 (kq ≤ k) ∧ Drawn0 w w')
  case atStart => exact ⟨(0), (0), (by first | rfl | (simp; done) | (simp [*]; done)), (by first | rfl | (simp; done) | (simp [*]; done)), H', ⟨Nat.le_refl _⟩, by repeat (first | exact Drawn0.refl _ | apply Drawn0.step)⟩
  case round =>
    clear H'
    obtain ⟨x3_1, x4_1, rfl, rfl, HA, HK1, ⟨m1, rfl⟩⟩ := hrel
    cases gk with
    | zero => exact absurd HA.out (by simp [gangwayref03_Total.l0])
    | succ k1 =>
      have H := HA.out
      clear HA
      simp only [gangwayref03_Total.l0] at H
      by_cases c2 : x4_1 < (a0.size : Int)
      · rw [if_pos c2] at H
        have c2b0 : decide (x4_1 < (a0.size : Int)) = true := decide_eq_true c2
        clear c2
        by_cases c3 : (Int.tmod x4_1 2) = 0
        · rw [if_pos c3] at H
          have c3b0 : ((Int.tmod x4_1 2) == 0) = true := beq_iff_eq.mpr c3
          have c3b1 : ((Int.tmod x4_1 2) != 0) = false := bne_eq_false_iff_eq.mpr c3
          clear c3
          by_cases c4 : 0 ≤ x4_1
          · rw [if_pos c4] at H
            have c4b0 : decide (0 ≤ x4_1) = true := decide_eq_true c4
            clear c4
            have H' := Aside0.mk H
            clear H
            have p5 : 0 ≤ (x4_1 : Int) := of_decide_eq_true (by first | (with_reducible assumption) | assumption)
            have q5 : x4_1 < (a0.size : Int) := of_decide_eq_true (by first | (with_reducible assumption) | assumption)
            have hx5 := bt_at a0 x4_1
            replace p5 := eq_true p5
            replace q5 := eq_true q5
            go_wp2
            go_roundg k1
            case measure => have := HK1.out; omega
            case rel => exact ⟨(wrap64 (x3_1 + (wrap64 (256 * (wrap64 (bt a0 x4_1)))))), (wrap64 (x4_1 + 1)), (by first | rfl | (simp; done) | (simp [*]; done)), (by first | rfl | (simp; done) | (simp [*]; done)), H', ⟨by have := HK1.out; omega⟩, by repeat (first | exact Drawn0.refl _ | apply Drawn0.step)⟩
          · rw [if_neg c4] at H
            exact absurd H (by simp)
        · rw [if_neg c3] at H
          have c3b0 : ((Int.tmod x4_1 2) == 0) = false := beq_eq_false_iff_ne.mpr c3
          have c3b1 : ((Int.tmod x4_1 2) != 0) = true := bne_iff_ne.mpr c3
          by_cases c6 : 0 ≤ x4_1
          · rw [if_pos c6] at H
            have c6b0 : decide (0 ≤ x4_1) = true := decide_eq_true c6
            clear c6
            have H' := Aside0.mk H
            clear H
            have p7 : 0 ≤ (x4_1 : Int) := of_decide_eq_true (by first | (with_reducible assumption) | assumption)
            have q7 : x4_1 < (a0.size : Int) := of_decide_eq_true (by first | (with_reducible assumption) | assumption)
            have hx7 := bt_at a0 x4_1
            replace p7 := eq_true p7
            replace q7 := eq_true q7
            go_wp2
            go_roundg k1
            case measure => have := HK1.out; omega
            case rel => exact ⟨(wrap64 (x3_1 + (wrap64 (bt a0 x4_1)))), (wrap64 (x4_1 + 1)), (by first | rfl | (simp; done) | (simp [*]; done)), (by first | rfl | (simp; done) | (simp [*]; done)), H', ⟨by have := HK1.out; omega⟩, by repeat (first | exact Drawn0.refl _ | apply Drawn0.step)⟩
          · rw [if_neg c6] at H
            exact absurd H (by simp)
      · rw [if_neg c2] at H
        have c2b0 : decide (x4_1 < (a0.size : Int)) = false := decide_eq_false c2
        clear c2
        obtain rfl := Option.some.inj H
        go_wp2
        go_ret
        exact ⟨by first | rfl | (simp; done) | (simp [*]; done), by repeat (first | exact Drawn0.refl _ | apply Drawn0.step)⟩

/-! ### gangwayref03_Of: function 20 -/
def gangwayref03_Of.f (k : Nat) (a0 : ByteArray) : Option (Int) := (gangwayref03_Total.f k a0).bind fun t138 => ((gangwayref03_Fold.f t138).bind fun t139 => (some (wrap64 (65535 - t139))))
theorem gangwayref03_Of.mono : ∀ a0 k, LeO (gangwayref03_Of.f k a0) (gangwayref03_Of.f (k + 1) a0) := by
  intro a0 k
  unfold gangwayref03_Of.f
  repeat' first
      | (with_reducible exact gangwayref03_Total.mono _ _)
      | (with_reducible exact LeO.refl _)
      | (with_reducible exact LeO.none _)
      | (with_reducible refine LeO.ite ?_ ?_)
      | (with_reducible refine LeO.bind ?_ (fun _ => ?_))
      | exact gangwayref03_Total.mono _ _
      | exact LeO.none _
      | refine LeO.ite ?_ ?_
      | refine LeO.bind ?_ (fun _ => ?_)
set_option maxHeartbeats 8000000 in
set_option maxRecDepth 100000 in
theorem gangwayref03_Of.calls (k : Nat) (a0 : ByteArray) (r : Int) (w : World) (h : gangwayref03_Of.f k a0 = some r) :
    Calls Tryd.prog 20 #[.string a0] w fun e w' => e = .returned (.int .i64 r) ∧ Drawn0 w w' := by
  have H : ((gangwayref03_Total.f k a0).bind fun t138 => ((gangwayref03_Fold.f t138).bind fun t139 => (some (wrap64 (65535 - t139))))) = some r := h
  clear h
  replace H := Option.bind_eq_some_iff.mp H
  obtain ⟨t138, A20, H⟩ := H
  replace H : ((gangwayref03_Fold.f t138).bind fun t139 => (some (wrap64 (65535 - t139)))) = some r := H
  have A2 := Aside0.mk A20
  clear A20
  replace H := Option.bind_eq_some_iff.mp H
  obtain ⟨t139, A30, H⟩ := H
  replace H : (some (wrap64 (65535 - t139))) = some r := H
  have A3 := Aside0.mk A30
  clear A30
  obtain rfl := Option.some.inj H
  go_enter Tryd.func20, Tryd.ntmps20
  go_wp2_with (first | ((with_reducible refine gate_callee (f := 29) rfl ?_); refine goesL_ (some 4) rfl rfl Tryd.func29 (by kernel_rfl) rfl #[.string a0] rfl (by (try simp only [List.map_toArray, List.map_cons, List.map_nil]); first | done | rfl | (simp only [List.length_drop, List.length_take]; rfl)) ?_; (with_reducible refine (gangwayref03_Total.calls k a0 t138 _ A2.out).mono ?_); rintro e w' ⟨rfl, ⟨nd, rfl⟩⟩; refine ⟨_, rfl, ?_⟩) | ((with_reducible refine gate_callee (f := 28) rfl ?_); refine goesL_ (some 5) rfl rfl Tryd.func28 (by kernel_rfl) rfl #[.int .i64 t138] rfl (by (try simp only [List.map_toArray, List.map_cons, List.map_nil]); first | done | rfl | (simp only [List.length_drop, List.length_take]; rfl)) ?_; (with_reducible refine (gangwayref03_Fold.calls t138 t139 _ A3.out).mono ?_); rintro e w' ⟨rfl, ⟨nd, rfl⟩⟩; refine ⟨_, rfl, ?_⟩))
  go_ret
  exact ⟨by first | rfl | (simp; done) | (simp [*]; done), by repeat (first | exact Drawn0.refl _ | apply Drawn0.step)⟩

/-! ### gangwayref03_low: function 30 -/
def gangwayref03_low.f (a0 : Int) : Option (Int) := some (Int.tmod (wrap64 ((Int.tmod a0 65536) + 65536)) 65536)
set_option maxHeartbeats 8000000 in
set_option maxRecDepth 100000 in
theorem gangwayref03_low.calls (a0 : Int) (r : Int) (w : World) (h : gangwayref03_low.f a0 = some r) :
    Calls Tryd.prog 30 #[.int .i64 a0] w fun e w' => e = .returned (.int .i64 r) ∧ Drawn0 w w' := by
  have H : (some (Int.tmod (wrap64 ((Int.tmod a0 65536) + 65536)) 65536)) = some r := h
  clear h
  obtain rfl := Option.some.inj H
  go_enter Tryd.func30, Tryd.ntmps30
  go_wp2
  go_ret
  exact ⟨by first | rfl | (simp; done) | (simp [*]; done), by repeat (first | exact Drawn0.refl _ | apply Drawn0.step)⟩

/-! ### gangwayref03_Head: function 21 -/
def gangwayref03_Head.f (k : Nat) (a0 : Int) (a1 : Int) (a2 : Int) (a3 : Int) : Option (ByteArray) := (gangwayref01_Bytes.f k (IntKind.u64.wrap (a0)) 4).bind fun t140 => ((gangwayref01_Bytes.f k (IntKind.u64.wrap (a1)) 4).bind fun t141 => (if t140.size + t141.size ≤ 9223372036854775807 then ((gangwayref01_Bytes.f k ((a2) % 256) 2).bind fun t142 => (if (t140 ++ t141).size + t142.size ≤ 9223372036854775807 then ((gangwayref03_low.f a3).bind fun t143 => ((gangwayref01_Bytes.f k (IntKind.u64.wrap (t143)) 2).bind fun t144 => (if ((t140 ++ t141) ++ t142).size + t144.size ≤ 9223372036854775807 then (some (((t140 ++ t141) ++ t142) ++ t144)) else (none)))) else (none))) else (none)))
theorem gangwayref03_Head.mono : ∀ a0 a1 a2 a3 k, LeO (gangwayref03_Head.f k a0 a1 a2 a3) (gangwayref03_Head.f (k + 1) a0 a1 a2 a3) := by
  intro a0 a1 a2 a3 k
  unfold gangwayref03_Head.f
  repeat' first
      | (with_reducible exact gangwayref01_Bytes.mono _ _ _)
      | (with_reducible exact LeO.refl _)
      | (with_reducible exact LeO.none _)
      | (with_reducible refine LeO.ite ?_ ?_)
      | (with_reducible refine LeO.bind ?_ (fun _ => ?_))
      | exact gangwayref01_Bytes.mono _ _ _
      | exact LeO.none _
      | refine LeO.ite ?_ ?_
      | refine LeO.bind ?_ (fun _ => ?_)
set_option maxHeartbeats 8000000 in
set_option maxRecDepth 100000 in
theorem gangwayref03_Head.calls (k : Nat) (a0 : Int) (a1 : Int) (a2 : Int) (a3 : Int) (r : ByteArray) (w : World) (h : gangwayref03_Head.f k a0 a1 a2 a3 = some r) :
    Calls Tryd.prog 21 #[.int .u32 a0, .int .u32 a1, .int .i64 a2, .int .i64 a3] w fun e w' => e = .returned (.string r) ∧ Below w.heap.size w w' := by
  have HB := Aside0.mk (Below.refl w.heap.size w)
  have H : ((gangwayref01_Bytes.f k (IntKind.u64.wrap (a0)) 4).bind fun t140 => ((gangwayref01_Bytes.f k (IntKind.u64.wrap (a1)) 4).bind fun t141 => (if t140.size + t141.size ≤ 9223372036854775807 then ((gangwayref01_Bytes.f k ((a2) % 256) 2).bind fun t142 => (if (t140 ++ t141).size + t142.size ≤ 9223372036854775807 then ((gangwayref03_low.f a3).bind fun t143 => ((gangwayref01_Bytes.f k (IntKind.u64.wrap (t143)) 2).bind fun t144 => (if ((t140 ++ t141) ++ t142).size + t144.size ≤ 9223372036854775807 then (some (((t140 ++ t141) ++ t142) ++ t144)) else (none)))) else (none))) else (none)))) = some r := h
  clear h
  replace H := Option.bind_eq_some_iff.mp H
  obtain ⟨t140, A50, H⟩ := H
  replace H : ((gangwayref01_Bytes.f k (IntKind.u64.wrap (a1)) 4).bind fun t141 => (if t140.size + t141.size ≤ 9223372036854775807 then ((gangwayref01_Bytes.f k ((a2) % 256) 2).bind fun t142 => (if (t140 ++ t141).size + t142.size ≤ 9223372036854775807 then ((gangwayref03_low.f a3).bind fun t143 => ((gangwayref01_Bytes.f k (IntKind.u64.wrap (t143)) 2).bind fun t144 => (if ((t140 ++ t141) ++ t142).size + t144.size ≤ 9223372036854775807 then (some (((t140 ++ t141) ++ t142) ++ t144)) else (none)))) else (none))) else (none))) = some r := H
  have A5 := Aside0.mk A50
  clear A50
  replace H := Option.bind_eq_some_iff.mp H
  obtain ⟨t141, A60, H⟩ := H
  replace H : (if t140.size + t141.size ≤ 9223372036854775807 then ((gangwayref01_Bytes.f k ((a2) % 256) 2).bind fun t142 => (if (t140 ++ t141).size + t142.size ≤ 9223372036854775807 then ((gangwayref03_low.f a3).bind fun t143 => ((gangwayref01_Bytes.f k (IntKind.u64.wrap (t143)) 2).bind fun t144 => (if ((t140 ++ t141) ++ t142).size + t144.size ≤ 9223372036854775807 then (some (((t140 ++ t141) ++ t142) ++ t144)) else (none)))) else (none))) else (none)) = some r := H
  have A6 := Aside0.mk A60
  clear A60
  by_cases c7 : t140.size + t141.size ≤ 9223372036854775807
  · rw [if_pos c7] at H
    have c7b0 := eq_true c7
    have c7b1 : decide (t140.size + t141.size ≤ 9223372036854775807) = true := decide_eq_true c7
    try have c7b2 : (9223372036854775807 < t140.size + t141.size) = False := eq_false (Nat.not_lt.2 c7)
    replace H := Option.bind_eq_some_iff.mp H
    obtain ⟨t142, A80, H⟩ := H
    replace H : (if (t140 ++ t141).size + t142.size ≤ 9223372036854775807 then ((gangwayref03_low.f a3).bind fun t143 => ((gangwayref01_Bytes.f k (IntKind.u64.wrap (t143)) 2).bind fun t144 => (if ((t140 ++ t141) ++ t142).size + t144.size ≤ 9223372036854775807 then (some (((t140 ++ t141) ++ t142) ++ t144)) else (none)))) else (none)) = some r := H
    have A8 := Aside0.mk A80
    clear A80
    by_cases c9 : (t140 ++ t141).size + t142.size ≤ 9223372036854775807
    · rw [if_pos c9] at H
      have c9b0 := eq_true c9
      have c9b1 : decide ((t140 ++ t141).size + t142.size ≤ 9223372036854775807) = true := decide_eq_true c9
      have c9z := c9
      simp only [ByteArray.size_append] at c9z
      have c9z1 := eq_true c9z
      have c9z2 := eq_false (Nat.not_lt.2 c9z)
      try have c9b2 : (9223372036854775807 < (t140 ++ t141).size + t142.size) = False := eq_false (Nat.not_lt.2 c9)
      replace H := Option.bind_eq_some_iff.mp H
      obtain ⟨t143, A100, H⟩ := H
      replace H : ((gangwayref01_Bytes.f k (IntKind.u64.wrap (t143)) 2).bind fun t144 => (if ((t140 ++ t141) ++ t142).size + t144.size ≤ 9223372036854775807 then (some (((t140 ++ t141) ++ t142) ++ t144)) else (none))) = some r := H
      have A10 := Aside0.mk A100
      clear A100
      replace H := Option.bind_eq_some_iff.mp H
      obtain ⟨t144, A110, H⟩ := H
      replace H : (if ((t140 ++ t141) ++ t142).size + t144.size ≤ 9223372036854775807 then (some (((t140 ++ t141) ++ t142) ++ t144)) else (none)) = some r := H
      have A11 := Aside0.mk A110
      clear A110
      by_cases c12 : ((t140 ++ t141) ++ t142).size + t144.size ≤ 9223372036854775807
      · rw [if_pos c12] at H
        have c12b0 := eq_true c12
        have c12b1 : decide (((t140 ++ t141) ++ t142).size + t144.size ≤ 9223372036854775807) = true := decide_eq_true c12
        have c12z := c12
        simp only [ByteArray.size_append] at c12z
        have c12z1 := eq_true c12z
        have c12z2 := eq_false (Nat.not_lt.2 c12z)
        try have c12b2 : (9223372036854775807 < ((t140 ++ t141) ++ t142).size + t144.size) = False := eq_false (Nat.not_lt.2 c12)
        obtain rfl := Option.some.inj H
        go_enter Tryd.func21, Tryd.ntmps21
        go_wp2_with (first | ((with_reducible refine gate_callee (f := 19) rfl ?_); refine goesL_ (some 11) rfl rfl Tryd.func19 (by kernel_rfl) rfl #[.int .u64 (IntKind.u64.wrap (a0)), .int .i64 4] rfl (by (try simp only [List.map_toArray, List.map_cons, List.map_nil]); first | done | rfl | (simp only [List.length_drop, List.length_take]; rfl)) ?_; (with_reducible refine (gangwayref01_Bytes.calls k (IntKind.u64.wrap (a0)) 4 t140 _ A5.out).mono ?_); rintro e w13 ⟨rfl, hb⟩; refine ⟨_, rfl, ?_⟩; have n0_ := Aside0.mk (below_step (by repeat (first | (with_reducible first | exact HB.out | apply below_alloc | apply pw_below_drewN | apply below_drew1) | exact HB.out)) hb); clear HB; have HB := n0_; clear n0_; (try clear hb); (try clear hb2); (try clear hk); (try clear hi)) | ((with_reducible refine gate_callee (f := 19) rfl ?_); refine goesL_ (some 14) rfl rfl Tryd.func19 (by kernel_rfl) rfl #[.int .u64 (IntKind.u64.wrap (a1)), .int .i64 4] rfl (by (try simp only [List.map_toArray, List.map_cons, List.map_nil]); first | done | rfl | (simp only [List.length_drop, List.length_take]; rfl)) ?_; (with_reducible refine (gangwayref01_Bytes.calls k (IntKind.u64.wrap (a1)) 4 t141 _ A6.out).mono ?_); rintro e w14 ⟨rfl, hb⟩; refine ⟨_, rfl, ?_⟩; have n0_ := Aside0.mk (below_step (by repeat (first | (with_reducible first | exact HB.out | apply below_alloc | apply pw_below_drewN | apply below_drew1) | exact HB.out)) hb); clear HB; have HB := n0_; clear n0_; (try clear hb); (try clear hb2); (try clear hk); (try clear hi)) | ((with_reducible refine gate_callee (f := 19) rfl ?_); refine goesL_ (some 19) rfl rfl Tryd.func19 (by kernel_rfl) rfl #[.int .u64 ((a2) % 256), .int .i64 2] rfl (by (try simp only [List.map_toArray, List.map_cons, List.map_nil]); first | done | rfl | (simp only [List.length_drop, List.length_take]; rfl)) ?_; (with_reducible refine (gangwayref01_Bytes.calls k ((a2) % 256) 2 t142 _ A8.out).mono ?_); rintro e w15 ⟨rfl, hb⟩; refine ⟨_, rfl, ?_⟩; have n0_ := Aside0.mk (below_step (by repeat (first | (with_reducible first | exact HB.out | apply below_alloc | apply pw_below_drewN | apply below_drew1) | exact HB.out)) hb); clear HB; have HB := n0_; clear n0_; (try clear hb); (try clear hb2); (try clear hk); (try clear hi)) | ((with_reducible refine gate_callee (f := 30) rfl ?_); refine goesL_ (some 22) rfl rfl Tryd.func30 (by kernel_rfl) rfl #[.int .i64 a3] rfl (by (try simp only [List.map_toArray, List.map_cons, List.map_nil]); first | done | rfl | (simp only [List.length_drop, List.length_take]; rfl)) ?_; (with_reducible refine (gangwayref03_low.calls a3 t143 _ A10.out).mono ?_); rintro e w' ⟨rfl, ⟨nd, rfl⟩⟩; refine ⟨_, rfl, ?_⟩) | ((with_reducible refine gate_callee (f := 19) rfl ?_); refine goesL_ (some 24) rfl rfl Tryd.func19 (by kernel_rfl) rfl #[.int .u64 (IntKind.u64.wrap (t143)), .int .i64 2] rfl (by (try simp only [List.map_toArray, List.map_cons, List.map_nil]); first | done | rfl | (simp only [List.length_drop, List.length_take]; rfl)) ?_; (with_reducible refine (gangwayref01_Bytes.calls k (IntKind.u64.wrap (t143)) 2 t144 _ A11.out).mono ?_); rintro e w16 ⟨rfl, hb⟩; refine ⟨_, rfl, ?_⟩; have n0_ := Aside0.mk (below_step (by repeat (first | (with_reducible first | exact HB.out | apply below_alloc | apply pw_below_drewN | apply below_drew1) | exact HB.out)) hb); clear HB; have HB := n0_; clear n0_; (try clear hb); (try clear hb2); (try clear hk); (try clear hi)))
        go_ret
        exact ⟨by first | rfl | (simp [errW_none, errW_some] <;> rfl) | (simp [*, errW_none, errW_some] <;> rfl) | (simp [*, IntKind.wrap_u32]; done) | (simp_all [IntKind.wrap_u32]; done), by repeat (first | (with_reducible first | exact HB.out | apply below_alloc | apply pw_below_drewN | apply below_drew1) | exact HB.out)⟩
      · rw [if_neg c12] at H
        exact absurd H (by simp)
    · rw [if_neg c9] at H
      exact absurd H (by simp)
  · rw [if_neg c7] at H
    exact absurd H (by simp)

end Go.Proofs.YtppaikjbafobbaaDoor.P
