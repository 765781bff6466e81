-- Written by wip/hprint.py (this session's program) through the kit's print program; hand contracts are marked 'by hand'.
import Derived.Test.YthgdphfblajijaaDoorPx0
namespace Go.Proofs.YthgdphfblajijaaDoor.P
open Go.RowKit Go.Proofs.YthgdphfblajijaaDoorW.PrintWords Go.Proofs.YthgdphfblajijaaDoorW.PrintLast Go.Proofs.YthgdphfblajijaaDoorW.PrintMore
attribute [local go_sem] max2_int min2_int max_two min_two max_three min_three max_four min_four   -- for this text's walks alone
set_option linter.unusedVariables false
set_option linter.unusedSimpArgs false

/-! ### gangwayref08_Hash: function 14 -/
def gangwayref08_Hash.l0 : Nat → ByteArray → Int → Int → Option (Int)
  | 0, _, _, _ => none
  | k + 1, x0, x3, x4 => if x4 < (x0.size : Int) then (if 0 ≤ x4 then (gangwayref08_Hash.l0 k x0 (Int.tmod (IntKind.u64.wrap ((Go.bits .xor .u64 x3 (IntKind.u64.wrap (bt x0 x4))) * 16777619)) 4294967296) (wrap64 (x4 + 1))) else (none)) else (some ((x3) % 4294967296))
def gangwayref08_Hash.f (k : Nat) (a0 : ByteArray) : Option (Int) := gangwayref08_Hash.l0 k a0 2166136261 0
theorem gangwayref08_Hash.mono_l : ∀ k, (∀ y0 y1 y2, LeO (gangwayref08_Hash.l0 k y0 y1 y2) (gangwayref08_Hash.l0 (k + 1) y0 y1 y2))
  | 0 => fun _ _ _ r h => by simp [gangwayref08_Hash.l0] at h
  | k + 1 => by
    have ih0 := gangwayref08_Hash.mono_l k
    · intro y0 y1 y2
      unfold gangwayref08_Hash.l0
      repeat' first
      | (with_reducible exact ih0 _ _ _)
      | (with_reducible exact LeO.refl _)
      | (with_reducible exact LeO.none _)
      | (with_reducible refine LeO.ite ?_ ?_)
      | (with_reducible refine LeO.bind ?_ (fun _ => ?_))
      | exact ih0 _ _ _
      | exact LeO.none _
      | refine LeO.ite ?_ ?_
      | refine LeO.bind ?_ (fun _ => ?_)
theorem gangwayref08_Hash.mono : ∀ a0 k, LeO (gangwayref08_Hash.f k a0) (gangwayref08_Hash.f (k + 1) a0) := by
  intro a0 k
  have ih0 := gangwayref08_Hash.mono_l k
  unfold gangwayref08_Hash.f
  repeat' first
      | (with_reducible exact ih0 _ _ _)
      | (with_reducible exact LeO.refl _)
      | (with_reducible exact LeO.none _)
      | (with_reducible refine LeO.ite ?_ ?_)
      | (with_reducible refine LeO.bind ?_ (fun _ => ?_))
      | exact ih0 _ _ _
      | exact LeO.none _
      | refine LeO.ite ?_ ?_
      | refine LeO.bind ?_ (fun _ => ?_)
set_option maxHeartbeats 8000000 in
set_option maxRecDepth 100000 in
theorem gangwayref08_Hash.calls (k : Nat) (a0 : ByteArray) (r : Int) (w : World) (h : gangwayref08_Hash.f k a0 = some r) :
    Calls Tryd.prog 14 #[.string a0] w fun e w' => e = .returned (.int .u32 r) ∧ Drawn0 w w' := by
  have H : (gangwayref08_Hash.l0 k a0 2166136261 0) = some r := h
  clear h
  have H' := Aside0.mk H
  clear H
  go_enter Tryd.func14, Tryd.ntmps14
  go_wp2
  go_loopg [3, 4] k (fun kq v3 v4 w' => ∃ (x3_1 : Int) (x4_1 : Int), v3 = .int .u64 x3_1 ∧ v4 = .int .i64 x4_1 ∧ Aside0 (gangwayref08_Hash.l0 kq a0 x3_1 x4_1 = some r) ∧ Aside0 (kq ≤ k) ∧ Drawn0 w w')
  case atStart => exact ⟨(2166136261), (0), (by first | rfl | (simp; done) | (simp [*]; done)), (by first | rfl | (simp; done) | (simp [*]; done)), H', ⟨Nat.le_refl _⟩, by repeat (first | exact Drawn0.refl _ | apply Drawn0.step)⟩
  case round =>
    clear H'
    try clear c1
    obtain ⟨x3_1, x4_1, rfl, rfl, HA, HK1, ⟨m1, rfl⟩⟩ := hrel
    cases gk with
    | zero => exact absurd HA.out (by simp [gangwayref08_Hash.l0])
    | succ k1 =>
      have H := HA.out
      clear HA
      simp only [gangwayref08_Hash.l0] at H
      by_cases c2 : x4_1 < (a0.size : Int)
      · rw [if_pos c2] at H
        have c2b0 : decide (x4_1 < (a0.size : Int)) = true := decide_eq_true c2
        clear c2
        by_cases c3 : 0 ≤ x4_1
        · rw [if_pos c3] at H
          have c3b0 : decide (0 ≤ x4_1) = true := decide_eq_true c3
          clear c3
          have H' := Aside0.mk H
          clear H
          have p4 : 0 ≤ (x4_1 : Int) := of_decide_eq_true (by first | (with_reducible assumption) | assumption)
          have q4 : x4_1 < (a0.size : Int) := of_decide_eq_true (by first | (with_reducible assumption) | assumption)
          have hx4 := bt_at a0 x4_1
          replace p4 := eq_true p4
          replace q4 := eq_true q4
          go_wp2
          go_roundg k1
          case measure => have := HK1.out; omega
          case rel => exact ⟨(Int.tmod (IntKind.u64.wrap ((Go.bits .xor .u64 x3_1 (IntKind.u64.wrap (bt a0 x4_1))) * 16777619)) 4294967296), (wrap64 (x4_1 + 1)), (by first | rfl | (simp; done) | (simp [*]; done)), (by first | rfl | (simp; done) | (simp [*]; done)), H', ⟨by have := HK1.out; omega⟩, by repeat (first | exact Drawn0.refl _ | apply Drawn0.step)⟩
        · rw [if_neg c3] at H
          exact absurd H (by simp)
      · rw [if_neg c2] at H
        have c2b0 : decide (x4_1 < (a0.size : Int)) = false := decide_eq_false c2
        clear c2
        obtain rfl := Option.some.inj H
        go_wp2
        go_ret
        exact ⟨by first | rfl | (simp; done) | (simp [*]; done), by repeat (first | exact Drawn0.refl _ | apply Drawn0.step)⟩

/-! ### gangwayref08_Port: function 16 -/
def gangwayref08_Port.f (k : Nat) (a0 : ByteArray) : Option (Int) := if (a0.size : Int) > 14 then (if 0 ≤ 14 then (if 14 ≤ (a0.size : Int) then ((gangwayref08_Hash.f k (a0.extract 0 14)).bind fun t148 => (some (wrap64 (49152 + (wrap64 (Int.tmod t148 16384)))))) else (none)) else (none)) else ((gangwayref08_Hash.f k a0).bind fun t149 => (some (wrap64 (49152 + (wrap64 (Int.tmod t149 16384))))))
theorem gangwayref08_Port.mono : ∀ a0 k, LeO (gangwayref08_Port.f k a0) (gangwayref08_Port.f (k + 1) a0) := by
  intro a0 k
  unfold gangwayref08_Port.f
  repeat' first
      | (with_reducible exact gangwayref08_Hash.mono _ _)
      | (with_reducible exact LeO.refl _)
      | (with_reducible exact LeO.none _)
      | (with_reducible refine LeO.ite ?_ ?_)
      | (with_reducible refine LeO.bind ?_ (fun _ => ?_))
      | exact gangwayref08_Hash.mono _ _
      | exact LeO.none _
      | refine LeO.ite ?_ ?_
      | refine LeO.bind ?_ (fun _ => ?_)
set_option maxHeartbeats 8000000 in
set_option maxRecDepth 100000 in
theorem gangwayref08_Port.calls (k : Nat) (a0 : ByteArray) (r : Int) (w : World) (h : gangwayref08_Port.f k a0 = some r) :
    Calls Tryd.prog 16 #[.string a0] w fun e w' => e = .returned (.int .i64 r) ∧ Drawn0 w w' := by
  have H : (if (a0.size : Int) > 14 then (if 0 ≤ 14 then (if 14 ≤ (a0.size : Int) then ((gangwayref08_Hash.f k (a0.extract 0 14)).bind fun t148 => (some (wrap64 (49152 + (wrap64 (Int.tmod t148 16384)))))) else (none)) else (none)) else ((gangwayref08_Hash.f k a0).bind fun t149 => (some (wrap64 (49152 + (wrap64 (Int.tmod t149 16384))))))) = some r := h
  clear h
  by_cases c2 : (a0.size : Int) > 14
  · rw [if_pos c2] at H
    have c2b0 : decide (14 < (a0.size : Int)) = true := decide_eq_true c2
    have c2b1 : decide (14 < a0.size) = true := decide_eq_true (by omega)
    clear c2
    by_cases c3 : 0 ≤ 14
    · rw [if_pos c3] at H
      have c3b0 := eq_true c3
      have c3b1 : decide (0 ≤ 14) = true := decide_eq_true c3
      clear c3
      by_cases c4 : 14 ≤ (a0.size : Int)
      · rw [if_pos c4] at H
        have c4b0 := eq_true c4
        have c4b1 : decide (14 ≤ (a0.size : Int)) = true := decide_eq_true c4
        clear c4
        replace H := Option.bind_eq_some_iff.mp H
        obtain ⟨t148, A50, H⟩ := H
        replace H : (some (wrap64 (49152 + (wrap64 (Int.tmod t148 16384))))) = some r := H
        have A5 := Aside0.mk A50
        clear A50
        obtain rfl := Option.some.inj H
        go_enter Tryd.func16, Tryd.ntmps16
        go_wp2_with (first | ((with_reducible refine gate_callee (f := 14) rfl ?_); refine goesL_ (some 9) rfl rfl Tryd.func14 (by kernel_rfl) rfl #[.string (a0.extract 0 14)] rfl (by (try simp only [List.map_toArray, List.map_cons, List.map_nil]); first | done | rfl | (simp only [List.length_drop, List.length_take]; rfl)) ?_; (with_reducible refine (gangwayref08_Hash.calls k (a0.extract 0 14) t148 _ A5.out).mono ?_); rintro e w' ⟨rfl, ⟨nd, rfl⟩⟩; refine ⟨_, rfl, ?_⟩))
        go_ret
        exact ⟨by first | rfl | (simp; done) | (simp [*]; done), by repeat (first | exact Drawn0.refl _ | apply Drawn0.step)⟩
      · rw [if_neg c4] at H
        exact absurd H (by simp)
    · rw [if_neg c3] at H
      exact absurd H (by simp)
  · rw [if_neg c2] at H
    have c2b0 : decide (14 < (a0.size : Int)) = false := decide_eq_false c2
    have c2b1 : decide (14 < a0.size) = false := decide_eq_false (by omega)
    clear c2
    replace H := Option.bind_eq_some_iff.mp H
    obtain ⟨t149, A60, H⟩ := H
    replace H : (some (wrap64 (49152 + (wrap64 (Int.tmod t149 16384))))) = some r := H
    have A6 := Aside0.mk A60
    clear A60
    obtain rfl := Option.some.inj H
    go_enter Tryd.func16, Tryd.ntmps16
    go_wp2_with (first | ((with_reducible refine gate_callee (f := 14) rfl ?_); refine goesL_ (some 9) rfl rfl Tryd.func14 (by kernel_rfl) rfl #[.string a0] rfl (by (try simp only [List.map_toArray, List.map_cons, List.map_nil]); first | done | rfl | (simp only [List.length_drop, List.length_take]; rfl)) ?_; (with_reducible refine (gangwayref08_Hash.calls k a0 t149 _ A6.out).mono ?_); rintro e w' ⟨rfl, ⟨nd, rfl⟩⟩; refine ⟨_, rfl, ?_⟩))
    go_ret
    exact ⟨by first | rfl | (simp; done) | (simp [*]; done), by repeat (first | exact Drawn0.refl _ | apply Drawn0.step)⟩

end Go.Proofs.YthgdphfblajijaaDoor.P
