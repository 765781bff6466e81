-- Written by wip/hprint.py (this session's program) through the kit's print program; hand contracts are marked 'by hand'.
import Derived.Test.YtgfgebngmjchbaaPx0
import Derived.Test.YtgfgebngmjchbaaPx4
import Derived.Test.YtgfgebngmjchbaaPx6
namespace Go.Proofs.Ytgfgebngmjchbaa.P
open Go.RowKit Go.Proofs.YtgfgebngmjchbaaW.PrintWords Go.Proofs.YtgfgebngmjchbaaW.PrintLast Go.Proofs.YtgfgebngmjchbaaW.PrintMore
attribute [local go_sem] max2_int min2_int max_two min_two max_three min_three max_four min_four   -- for this text's walks alone
set_option linter.unusedVariables false
set_option linter.unusedSimpArgs false

/-! ### gangwaylaw03_CsumHalves: function 8 -/
mutual
def gangwaylaw03_CsumHalves.j0 : Nat → ByteArray → Int → Option (Bool)
  | 0, _, _ => none
  | k + 1, x0, x1 => if (wrap64 ((x0.size : Int) + 1)) = 0 then (none) else (gangwaylaw03_CsumHalves.j1 k x0 (Go.bits .andNot .i64 (Int.tmod (Go.bits .and .i64 x1 65535) (wrap64 ((x0.size : Int) + 1))) 1))
def gangwaylaw03_CsumHalves.j1 : Nat → ByteArray → Int → Option (Bool)
  | 0, _, _ => none
  | k + 1, x0, x5 => if 0 ≤ x5 then (if x5 ≤ (x0.size : Int) then ((csum_Of.f k (([x0.extract 0 (x5 : Int).toNat] : List ByteArray))).bind fun t253 => ((csum_Of.f k (([x0.extract (x5 : Int).toNat x0.size] : List ByteArray))).bind fun t257 => (if (wrap64 ((wrap64 (65535 - t253)) + (wrap64 (65535 - t257)))) > 65535 then (gangwaylaw03_CsumHalves.j2 k x0 x5 (wrap64 ((wrap64 ((wrap64 (65535 - t253)) + (wrap64 (65535 - t257)))) - 65535))) else (gangwaylaw03_CsumHalves.j2 k x0 x5 (wrap64 ((wrap64 (65535 - t253)) + (wrap64 (65535 - t257)))))))) else (none)) else (none)
def gangwaylaw03_CsumHalves.j2 : Nat → ByteArray → Int → Int → Option (Bool)
  | 0, _, _, _ => none
  | k + 1, x0, x5, x8 => (csum_Of.f k (([x0] : List ByteArray))).bind fun t261 => (if t261 = (wrap64 (65535 - x8)) then (if 0 ≤ x5 then (if x5 ≤ (x0.size : Int) then ((csum_Of.f k (([x0.extract 0 (x5 : Int).toNat, x0.extract (x5 : Int).toNat x0.size] : List ByteArray))).bind fun t265 => ((csum_Of.f k (([x0] : List ByteArray))).bind fun t269 => (if t265 = t269 then ((gangwaylaw03_fixed.f k).bind fun t270 => (some t270)) else (some false)))) else (none)) else (none)) else (some false))
end
def gangwaylaw03_CsumHalves.f (k : Nat) (a0 : ByteArray) (a1 : Int) : Option (Bool) := if 0 ≤ (mn (a0.size : Int) 600) then (if (mn (a0.size : Int) 600) ≤ (a0.size : Int) then (gangwaylaw03_CsumHalves.j0 k (a0.extract 0 ((mn (a0.size : Int) 600) : Int).toNat) a1) else (none)) else (none)
theorem gangwaylaw03_CsumHalves.mono_l : ∀ k, (∀ y0 y1, LeO (gangwaylaw03_CsumHalves.j0 k y0 y1) (gangwaylaw03_CsumHalves.j0 (k + 1) y0 y1)) ∧ (∀ y0 y1, LeO (gangwaylaw03_CsumHalves.j1 k y0 y1) (gangwaylaw03_CsumHalves.j1 (k + 1) y0 y1)) ∧ (∀ y0 y1 y2, LeO (gangwaylaw03_CsumHalves.j2 k y0 y1 y2) (gangwaylaw03_CsumHalves.j2 (k + 1) y0 y1 y2))
  | 0 => ⟨fun _ _ r h => by simp [gangwaylaw03_CsumHalves.j0] at h, fun _ _ r h => by simp [gangwaylaw03_CsumHalves.j1] at h, fun _ _ _ r h => by simp [gangwaylaw03_CsumHalves.j2] at h⟩
  | k + 1 => by
    obtain ⟨ih0, ih1, ih2⟩ := gangwaylaw03_CsumHalves.mono_l k
    refine ⟨?_, ?_, ?_⟩
    · intro y0 y1
      unfold gangwaylaw03_CsumHalves.j0
      repeat' first
      | (with_reducible exact ih0 _ _)
      | (with_reducible exact ih1 _ _)
      | (with_reducible exact ih2 _ _ _)
      | (with_reducible exact csum_Of.mono _ _)
      | (with_reducible exact gangwaylaw03_fixed.mono _)
      | (with_reducible exact LeO.refl _)
      | (with_reducible exact LeO.none _)
      | (with_reducible refine LeO.ite ?_ ?_)
      | (with_reducible refine LeO.bind ?_ (fun _ => ?_))
      | exact ih0 _ _
      | exact ih1 _ _
      | exact ih2 _ _ _
      | exact csum_Of.mono _ _
      | exact gangwaylaw03_fixed.mono _
      | exact LeO.none _
      | refine LeO.ite ?_ ?_
      | refine LeO.bind ?_ (fun _ => ?_)
    · intro y0 y1
      unfold gangwaylaw03_CsumHalves.j1
      repeat' first
      | (with_reducible exact ih0 _ _)
      | (with_reducible exact ih1 _ _)
      | (with_reducible exact ih2 _ _ _)
      | (with_reducible exact csum_Of.mono _ _)
      | (with_reducible exact gangwaylaw03_fixed.mono _)
      | (with_reducible exact LeO.refl _)
      | (with_reducible exact LeO.none _)
      | (with_reducible refine LeO.ite ?_ ?_)
      | (with_reducible refine LeO.bind ?_ (fun _ => ?_))
      | exact ih0 _ _
      | exact ih1 _ _
      | exact ih2 _ _ _
      | exact csum_Of.mono _ _
      | exact gangwaylaw03_fixed.mono _
      | exact LeO.none _
      | refine LeO.ite ?_ ?_
      | refine LeO.bind ?_ (fun _ => ?_)
    · intro y0 y1 y2
      unfold gangwaylaw03_CsumHalves.j2
      repeat' first
      | (with_reducible exact ih0 _ _)
      | (with_reducible exact ih1 _ _)
      | (with_reducible exact ih2 _ _ _)
      | (with_reducible exact csum_Of.mono _ _)
      | (with_reducible exact gangwaylaw03_fixed.mono _)
      | (with_reducible exact LeO.refl _)
      | (with_reducible exact LeO.none _)
      | (with_reducible refine LeO.ite ?_ ?_)
      | (with_reducible refine LeO.bind ?_ (fun _ => ?_))
      | exact ih0 _ _
      | exact ih1 _ _
      | exact ih2 _ _ _
      | exact csum_Of.mono _ _
      | exact gangwaylaw03_fixed.mono _
      | exact LeO.none _
      | refine LeO.ite ?_ ?_
      | refine LeO.bind ?_ (fun _ => ?_)
theorem gangwaylaw03_CsumHalves.mono : ∀ a0 a1 k, LeO (gangwaylaw03_CsumHalves.f k a0 a1) (gangwaylaw03_CsumHalves.f (k + 1) a0 a1) := by
  intro a0 a1 k
  obtain ⟨ih0, ih1, ih2⟩ := gangwaylaw03_CsumHalves.mono_l k
  unfold gangwaylaw03_CsumHalves.f
  repeat' first
      | (with_reducible exact ih0 _ _)
      | (with_reducible exact ih1 _ _)
      | (with_reducible exact ih2 _ _ _)
      | (with_reducible exact csum_Of.mono _ _)
      | (with_reducible exact gangwaylaw03_fixed.mono _)
      | (with_reducible exact LeO.refl _)
      | (with_reducible exact LeO.none _)
      | (with_reducible refine LeO.ite ?_ ?_)
      | (with_reducible refine LeO.bind ?_ (fun _ => ?_))
      | exact ih0 _ _
      | exact ih1 _ _
      | exact ih2 _ _ _
      | exact csum_Of.mono _ _
      | exact gangwaylaw03_fixed.mono _
      | exact LeO.none _
      | refine LeO.ite ?_ ?_
      | refine LeO.bind ?_ (fun _ => ?_)
def gangwaylaw03_CsumHalves.T3 : Bool × List (List Nat × List Nat) := (true, [([], []), ([], []), ([0, 1], [0, 1]), ([2], [2]), ([3], [3]), ([4], [4]), ([], []), ([], []), ([6, 7], [6, 7]), ([8], [8]), ([9, 4], [9]), ([10], [10]), ([5, 10, 0, 1, 2, 3, 4, 5], [5]), ([11, 12, 0, 1, 2, 3, 4, 5, 6, 7, 8, 9, 10, 11, 12], [11])])
def gangwaylaw03_CsumHalves.B3 : List Nat := [0, 0, 3, 7, 15, 31, 0, 0, 192, 448, 991, 2015, 2047, 8191]
theorem gangwaylaw03_CsumHalves.tab3 : rtab .any (opsOf Try.f8 3) = gangwaylaw03_CsumHalves.T3 := by kernel_rfl
theorem gangwaylaw03_CsumHalves.bits3 : waitsOk gangwaylaw03_CsumHalves.T3.2 gangwaylaw03_CsumHalves.B3 = true := by kernel_rfl
def gangwaylaw03_CsumHalves.T7 : Bool × List (List Nat × List Nat) := (true, [([], []), ([0], [0]), ([1], [1]), ([], []), ([3], [3]), ([2, 4], [2, 4]), ([5, 2], [5]), ([6], [6]), ([6], [6]), ([7, 8, 6], [6, 7, 8]), ([6], [6]), ([6], [6]), ([10, 11, 6], [6, 10, 11]), ([9, 12, 6], [6, 9, 12]), ([13, 6, 6], [6, 13]), ([6], [6]), ([15, 6], [6, 15]), ([16, 14, 6], [6, 16]), ([14, 17, 6], [6, 14, 17]), ([6, 18], [6, 18]), ([19, 17], [19]), ([20, 20], [20]), ([20, 21], [20, 21]), ([22, 21, 0, 1, 2, 3, 4, 5, 6, 7, 8, 9, 10, 11, 12, 13, 14, 15, 16, 17, 18, 19, 20, 21, 22], [22])])
def gangwaylaw03_CsumHalves.B7 : List Nat := [0, 1, 3, 0, 8, 31, 63, 127, 127, 511, 127, 127, 3199, 8191, 16383, 127, 32895, 131071, 262143, 524287, 1048575, 2097151, 4194303, 8388607]
theorem gangwaylaw03_CsumHalves.tab7 : rtab .any (opsOf Try.f8 7) = gangwaylaw03_CsumHalves.T7 := by kernel_rfl
theorem gangwaylaw03_CsumHalves.bits7 : waitsOk gangwaylaw03_CsumHalves.T7.2 gangwaylaw03_CsumHalves.B7 = true := by kernel_rfl
set_option maxHeartbeats 8000000 in
set_option maxRecDepth 100000 in
theorem gangwaylaw03_CsumHalves.calls (k : Nat) (a0 : ByteArray) (a1 : Int) (r : Bool) (w : World) (h : gangwaylaw03_CsumHalves.f k a0 a1 = some r) :
    Calls Try.prog 8 #[.string a0, .int .i64 a1] w fun e w' => e = .returned (.bool r) ∧ Below w.heap.size w w' := by
  have HB := Aside0.mk (Below.refl w.heap.size w)
  have H : (if 0 ≤ (mn (a0.size : Int) 600) then (if (mn (a0.size : Int) 600) ≤ (a0.size : Int) then (gangwaylaw03_CsumHalves.j0 k (a0.extract 0 ((mn (a0.size : Int) 600) : Int).toNat) a1) else (none)) else (none)) = some r := h
  clear h
  have HC3 := Aside0.mk H
  clear H
  go_enter Try.func8, Try.ntmps8
  go_upto_region 1 with (fail)
  go_cut [0] (fun v0 wc => ∃ (kq : Nat) (x0_2 : ByteArray), v0 = .string x0_2 ∧ Aside0 (gangwaylaw03_CsumHalves.j0 kq x0_2 a1 = some r) ∧ Aside0 (kq ≤ k) ∧ Aside0 (Below w.heap.size w wc))
  case first =>
    have H := HC3.out
    clear HC3
    obtain ⟨ji4, hji4⟩ : ∃ j_ : Int, (mn (a0.size : Int) 600) = j_ := ⟨_, rfl⟩
    replace H : (if 0 ≤ (ji4) then (if (ji4) ≤ (a0.size : Int) then (gangwaylaw03_CsumHalves.j0 k (a0.extract 0 ((ji4) : Int).toNat) a1) else (none)) else (none)) = some r := by first | (rw [hji4] at H; exact H) | (simp only [hji4] at H ⊢; exact H)
    (try (have hji4h : ji4 ≤ 600 := by (rw [← hji4]; unfold mn; (repeat' split) <;> omega)))
    (try (have hji4g : ji4 ≤ 64 := by omega))
    (try (have hji4l : 0 ≤ ji4 := by (rw [← hji4]; unfold mn; (repeat' split) <;> omega)))
    (try (have hji4m : 0 ≤ ji4 := by omega))
    have hji4_ : (if 600 < (a0.size : Int) then 600 else (a0.size : Int)) = ji4 := hji4
    by_cases c5 : 0 ≤ (ji4)
    · rw [if_pos c5] at H
      have c5b0 := eq_true c5
      have c5b1 : decide (0 ≤ (ji4)) = true := decide_eq_true c5
      clear c5
      by_cases c6 : (ji4) ≤ (a0.size : Int)
      · rw [if_pos c6] at H
        have c6b0 := eq_true c6
        have c6b1 : decide ((ji4) ≤ (a0.size : Int)) = true := decide_eq_true c6
        clear c6
        have H' := Aside0.mk H
        clear H
        go_wp2
        go_meet
        case rel => exact ⟨_, (a0.extract 0 ((ji4) : Int).toNat), (by first | rfl | (simp; done) | (simp only [← hji4] <;> (first | rfl | simp)) | (simp [*]; done)), H', ⟨by first | omega | exact Nat.le_refl _⟩, ⟨by repeat (first | (with_reducible first | exact HB.out | apply below_alloc | apply pw_below_drewN | apply below_drew1) | exact HB.out)⟩⟩
      · rw [if_neg c6] at H
        exact absurd H (by simp)
    · rw [if_neg c5] at H
      exact absurd H (by simp)
  case rest =>
    clear HC3
    try clear p2
    try clear c5
    try clear c5b0
    try clear c5b1
    try clear c6
    try clear c6b0
    try clear c6b1
    obtain ⟨kq, x0_2, rfl, HA, HJ2, HB⟩ := hcut
    cases kq with
    | zero => exact absurd HA.out (by simp [gangwaylaw03_CsumHalves.j0])
    | succ kj2 =>
      have H := HA.out
      clear HA
      simp only [gangwaylaw03_CsumHalves.j0] at H
      have HC7 := Aside0.mk H
      clear H
      go_upto_region 2 with (fail)
      go_cut [5] (fun v5 wc => ∃ (kq : Nat) (x5_6 : Int), v5 = .int .i64 x5_6 ∧ Aside0 (gangwaylaw03_CsumHalves.j1 kq x0_2 x5_6 = some r) ∧ Aside0 (kq ≤ kj2) ∧ Aside0 (Below w.heap.size w wc))
      case first =>
        have H := HC7.out
        clear HC7
        by_cases c8 : (wrap64 ((x0_2.size : Int) + 1)) = 0
        · rw [if_pos c8] at H
          exact absurd H (by simp)
        · rw [if_neg c8] at H
          have c8b0 : ((wrap64 ((x0_2.size : Int) + 1)) == 0) = false := beq_eq_false_iff_ne.mpr c8
          have c8b1 : ((wrap64 ((x0_2.size : Int) + 1)) != 0) = true := bne_iff_ne.mpr c8
          (first | rw [c8b0] | (simp only [i64_w, i32_w]; rw [c8b0]) | skip)
          have H' := Aside0.mk H
          clear H
          go_wp2
          go_meet
          case rel => exact ⟨_, (Go.bits .andNot .i64 (Int.tmod (Go.bits .and .i64 a1 65535) (wrap64 ((x0_2.size : Int) + 1))) 1), (by first | rfl | (simp; done) | (simp [*]; done)), H', ⟨by have := HJ2.out; first | omega | exact Nat.le_refl _⟩, ⟨by repeat (first | (with_reducible first | exact HB.out | apply below_alloc | apply pw_below_drewN | apply below_drew1) | exact HB.out)⟩⟩
      case rest =>
        clear HC7
        try clear p2
        try clear c5
        try clear c5b0
        try clear c5b1
        try clear c6
        try clear c6b0
        try clear c6b1
        try clear p6
        try clear c8
        try clear c8b0
        try clear c8b1
        try clear p2
        obtain ⟨kq, x5_6, rfl, HA, HJ6, HB⟩ := hcut
        cases kq with
        | zero => exact absurd HA.out (by simp [gangwaylaw03_CsumHalves.j1])
        | succ kj6 =>
          have H := HA.out
          clear HA
          simp only [gangwaylaw03_CsumHalves.j1] at H
          by_cases c9 : 0 ≤ x5_6
          · rw [if_pos c9] at H
            have c9b0 := eq_true c9
            have c9b1 : decide (0 ≤ x5_6) = true := decide_eq_true c9
            clear c9
            by_cases c10 : x5_6 ≤ (x0_2.size : Int)
            · rw [if_pos c10] at H
              have c10b0 := eq_true c10
              have c10b1 : decide (x5_6 ≤ (x0_2.size : Int)) = true := decide_eq_true c10
              clear c10
              obtain ⟨y250, hy250⟩ : ∃ y_ : List ByteArray, y_ = (([x0_2.extract 0 (x5_6 : Int).toNat] : List ByteArray)) := ⟨_, rfl⟩
              replace H : ((csum_Of.f kj6 y250).bind fun t253 => ((csum_Of.f kj6 (([x0_2.extract (x5_6 : Int).toNat x0_2.size] : List ByteArray))).bind fun t257 => (if (wrap64 ((wrap64 (65535 - t253)) + (wrap64 (65535 - t257)))) > 65535 then (gangwaylaw03_CsumHalves.j2 kj6 x0_2 x5_6 (wrap64 ((wrap64 ((wrap64 (65535 - t253)) + (wrap64 (65535 - t257)))) - 65535))) else (gangwaylaw03_CsumHalves.j2 kj6 x0_2 x5_6 (wrap64 ((wrap64 (65535 - t253)) + (wrap64 (65535 - t257)))))))) = some r := by first | (rw [hy250]; with_reducible exact H) | (have H2_ := (Option.bind_some _ _).symm.trans H; rw [hy250]; with_reducible exact H2_) | (have H2_ := (Option.bind_some _ _).symm.trans H; with_reducible exact H2_) | with_reducible exact H | (rw [hy250]; exact H) | exact H
              have Ny250 := Aside0.mk hy250
              clear hy250
              replace H := Option.bind_eq_some_iff.mp H
              obtain ⟨t253, A110, H⟩ := H
              replace H : ((csum_Of.f kj6 (([x0_2.extract (x5_6 : Int).toNat x0_2.size] : List ByteArray))).bind fun t257 => (if (wrap64 ((wrap64 (65535 - t253)) + (wrap64 (65535 - t257)))) > 65535 then (gangwaylaw03_CsumHalves.j2 kj6 x0_2 x5_6 (wrap64 ((wrap64 ((wrap64 (65535 - t253)) + (wrap64 (65535 - t257)))) - 65535))) else (gangwaylaw03_CsumHalves.j2 kj6 x0_2 x5_6 (wrap64 ((wrap64 (65535 - t253)) + (wrap64 (65535 - t257))))))) = some r := H
              have A11 := Aside0.mk A110
              clear A110
              have c12b0 := eq_true (of_decide_eq_true (by first | (with_reducible assumption) | assumption) : 0 ≤ x5_6)
              have c13b0 := eq_true (of_decide_eq_true (by first | (with_reducible assumption) | assumption) : x5_6 ≤ (x0_2.size : Int))
              obtain ⟨y254, hy254⟩ : ∃ y_ : List ByteArray, y_ = (([x0_2.extract (x5_6 : Int).toNat x0_2.size] : List ByteArray)) := ⟨_, rfl⟩
              replace H : ((csum_Of.f kj6 y254).bind fun t257 => (if (wrap64 ((wrap64 (65535 - t253)) + (wrap64 (65535 - t257)))) > 65535 then (gangwaylaw03_CsumHalves.j2 kj6 x0_2 x5_6 (wrap64 ((wrap64 ((wrap64 (65535 - t253)) + (wrap64 (65535 - t257)))) - 65535))) else (gangwaylaw03_CsumHalves.j2 kj6 x0_2 x5_6 (wrap64 ((wrap64 (65535 - t253)) + (wrap64 (65535 - t257))))))) = some r := by first | (rw [hy254]; with_reducible exact H) | (have H2_ := (Option.bind_some _ _).symm.trans H; rw [hy254]; with_reducible exact H2_) | (have H2_ := (Option.bind_some _ _).symm.trans H; with_reducible exact H2_) | with_reducible exact H | (rw [hy254]; exact H) | exact H
              have Ny254 := Aside0.mk hy254
              clear hy254
              replace H := Option.bind_eq_some_iff.mp H
              obtain ⟨t257, A140, H⟩ := H
              replace H : (if (wrap64 ((wrap64 (65535 - t253)) + (wrap64 (65535 - t257)))) > 65535 then (gangwaylaw03_CsumHalves.j2 kj6 x0_2 x5_6 (wrap64 ((wrap64 ((wrap64 (65535 - t253)) + (wrap64 (65535 - t257)))) - 65535))) else (gangwaylaw03_CsumHalves.j2 kj6 x0_2 x5_6 (wrap64 ((wrap64 (65535 - t253)) + (wrap64 (65535 - t257)))))) = some r := H
              have A14 := Aside0.mk A140
              clear A140
              have HC15 := Aside0.mk H
              clear H
              try go_wp2
              have n0_ := Aside0.mk (below_drew1 HB.out)
              clear HB
              have HB := n0_
              clear n0_
              refine start_ (n := 14) (S := fun w' => True) (ds := []) #[false, false, false, false, false, false, false, false, false, false, false, false, false, false] (by kernel_rfl) rfl rfl trivial (fun hHeld => ?_); refine with_tabW gangwaylaw03_CsumHalves.tab3 gangwaylaw03_CsumHalves.bits3 (fun HT_ HW_ => ?_)
              generalize wc.drew = w16 at HB hHeld ⊢
              refine pure_ (i := 0) (N := some 21) (v := ?_) (a' := ?_) #[true, false, false, false, false, false, false, false, false, false, false, false, false, false] rfl rfl (any_of HT_.out (by kernel_rfl)) (fun _ _ _ h => h) (Or.inl ⟨by rfl, ?_⟩) ?_ ?_
              rotate_left
              · intro w'
                go_simp
                first | with_reducible rfl | (rw [if_neg (by (try simp only [decide_eq_true_eq, ByteArray.size_append, ByteArray.size_extract, eq_iff_iff, iff_true, iff_false, Nat.not_lt] at *); omega)]; try with_reducible rfl)
              rotate_left
              · simp only [Act.put, List.setIfInBounds_toArray, List.set_cons_zero, List.set_cons_succ, i64_w, i32_w]
                rfl
              refine pure_ (i := 1) (N := some 22) (v := ?_) (a' := ?_) #[true, true, false, false, false, false, false, false, false, false, false, false, false, false] rfl rfl (any_of HT_.out (by kernel_rfl)) (fun _ _ _ h => h) (Or.inl ⟨by rfl, ?_⟩) ?_ ?_
              rotate_left
              · intro w'
                go_simp
                first | with_reducible rfl | (rw [if_neg (by (try simp only [decide_eq_true_eq, ByteArray.size_append, ByteArray.size_extract, eq_iff_iff, iff_true, iff_false, Nat.not_lt] at *); omega)]; try with_reducible rfl)
              rotate_left
              · simp only [Act.put, List.setIfInBounds_toArray, List.set_cons_zero, List.set_cons_succ, i64_w, i32_w]
                rfl
              refine pure_ (i := 6) (N := some 27) (v := ?_) (a' := ?_) #[true, true, false, false, false, false, true, false, false, false, false, false, false, false] rfl rfl (any_of HT_.out (by kernel_rfl)) (fun _ _ _ h => h) (Or.inl ⟨by rfl, ?_⟩) ?_ ?_
              rotate_left
              · intro w'
                go_simp
                first | with_reducible rfl | (rw [if_neg (by (try simp only [decide_eq_true_eq, ByteArray.size_append, ByteArray.size_extract, eq_iff_iff, iff_true, iff_false, Nat.not_lt] at *); omega)]; try with_reducible rfl)
              rotate_left
              · simp only [Act.put, List.setIfInBounds_toArray, List.set_cons_zero, List.set_cons_succ, i64_w, i32_w]
                rfl
              refine pure_ (i := 7) (N := some 28) (v := ?_) (a' := ?_) #[true, true, false, false, false, false, true, true, false, false, false, false, false, false] rfl rfl (any_of HT_.out (by kernel_rfl)) (fun _ _ _ h => h) (Or.inl ⟨by rfl, ?_⟩) ?_ ?_
              rotate_left
              · intro w'
                go_simp
                first | with_reducible rfl | (rw [if_neg (by (try simp only [decide_eq_true_eq, ByteArray.size_append, ByteArray.size_extract, eq_iff_iff, iff_true, iff_false, Nat.not_lt] at *); omega)]; try with_reducible rfl)
              rotate_left
              · simp only [Act.put, List.setIfInBounds_toArray, List.set_cons_zero, List.set_cons_succ, i64_w, i32_w]
                rfl
              refine inv_at [2, 3, 4, 5, 8, 9, 10, 11, 12, 13] (fun a0_ b a w' => ∃ (v251 : Value) (v255 : Value), a = putSel a0_ b [(2, 23, .string (x0_2.extract 0 (x5_6 : Int).toNat)), (3, 24, v251), (4, 25, .int .i64 t253), (5, 26, .int .i64 (wrap64 (65535 - t253))), (8, 29, .string (x0_2.extract (x5_6 : Int).toNat x0_2.size)), (9, 30, v255), (10, 31, .int .i64 t257), (11, 32, .int .i64 (wrap64 (65535 - t257))), (12, 6, .int .i64 (wrap64 (65535 - t253))), (13, 7, .int .i64 (wrap64 (65535 - t257)))] ∧ (Below w.heap.size w w') ∧ (b 3 = true → Kd.R Kd.string 9 w' w.heap.size (fun _ => True) v251 y250) ∧ (b 9 = true → Kd.R Kd.string 9 w' w.heap.size (fun _ => True) v255 y254)) HT_.out HW_.out (by kernel_rfl) (by kernel_rfl) ?_ ?_ ?_
              · exact ⟨.bool false, .bool false, by simp only [putSel, Bool.false_eq_true, if_false], HB.out, fun h_ => absurd h_ (by decide), fun h_ => absurd h_ (by decide)⟩
              · skip
                clear HB
                refine steps_cons ?_ ?_
                · rintro b a w' ⟨v251, v255, ha, Q_HB, Q_HO252, Q_HO256⟩ hb_ hon hoff
                  refine ⟨_, rfl, fun K hK => ?_⟩
                  have e21 : a.tmps[21]? = some (.string x0_2) := by rw [ha]; exact (putSel_off rfl).trans rfl
                  have e22 : a.tmps[22]? = some (.int .i64 x5_6) := by rw [ha]; exact (putSel_off rfl).trans rfl
                  replace ha := Aside0.mk ha
                  have HB := Aside0.mk Q_HB
                  refine value_ (w1 := w') (v := .string (x0_2.extract 0 (x5_6 : Int).toNat)) (by rfl) rfl ?_ ?_
                  · go_simp
                    (try simp only [i64_w])
                    try rfl
                  refine hK.out _ _ ⟨v251, v255, (by rw [ha.out]; exact putSel_upk 0 hb_ rfl rfl rfl), Q_HB, fun h0_ => absurd ((hoff 3 (by kernel_rfl)).symm.trans h0_) (by decide), Q_HO256⟩
                refine steps_cons ?_ ?_
                · rintro b a w' ⟨v251, v255, ha, Q_HB, Q_HO252, Q_HO256⟩ hb_ hon hoff
                  refine ⟨_, rfl, fun K hK => ?_⟩
                  have e23 : a.tmps[23]? = some (.string (x0_2.extract 0 (x5_6 : Int).toNat)) := by rw [ha]; exact putSel_on (e := (2, 23, .string (x0_2.extract 0 (x5_6 : Int).toNat))) 0 rfl rfl (hon 2 (by kernel_rfl)) rfl
                  replace ha := Aside0.mk ha
                  have HB := Aside0.mk Q_HB
                  refine Kd.R_lit_step Kd.string _ 9 ?hg (N := 24) ?hd (xs := ([x0_2.extract 0 (x5_6 : Int).toNat] : List ByteArray)) (inner := [.string (x0_2.extract 0 (x5_6 : Int).toNat)]) (ok := fun _ => True) (okp := fun _ => True) ?hr ?hp (fun _ hk => hk) trivial (Below.refl _ _) (Nat.le_refl _) (by simp) ?_; (case hd => rfl); (case hg => rfl); (case hr => first | (go_simp; done) | (go_simp; rfl)); (case hp => exact (Reps.one (show Kd.M Kd.string _ _ _ (x0_2.extract 0 (x5_6 : Int).toNat) [.string (x0_2.extract 0 (x5_6 : Int).toNat)] from rfl) (Reps.none _ _)))
                  intro v251 w17 ho18 hb hg_ hnew_
                  clear hg_ hnew_
                  (first | rw [← Ny250.out] at ho18 | (simp only [Int.reduceToNat] at ho18; rw [← Ny250.out] at ho18))
                  have n0_ := Aside0.mk (Kd.R_lower ho18 (below_size (by repeat (first | (with_reducible first | exact HB.out | apply below_alloc | apply pw_below_drewN | apply below_drew1) | exact HB.out))))
                  have n1_ := Aside0.mk (below_step (by repeat (first | (with_reducible first | exact HB.out | apply below_alloc | apply pw_below_drewN | apply below_drew1) | exact HB.out)) hb)
                  have z_HO256 := fun (h0_ : b 9 = true) => (show Kd.R Kd.string 9 w17 w.heap.size (fun _ => True) v255 y254 from by first | exact (Kd.R_elder' (by (with_reducible repeat (first | apply Kd.R_alloc | apply Kd.R_drewN | apply Kd.R_drew)); exact (Q_HO256 h0_)) (Kd.R_base ho18) hb) | exact Kd.R_mono (Kd.R_elder' (by (with_reducible repeat (first | apply Kd.R_alloc | apply Kd.R_drewN | apply Kd.R_drew)); exact (Q_HO256 h0_)) (Kd.R_base ho18) hb) (fun _ h_ => by first | trivial | exact h_ | exact h_.1))
                  clear HB
                  have HO252 := n0_
                  have HB := n1_
                  clear n0_ n1_
                  clear hb ho18
                  refine hK.out _ _ ⟨v251, v255, (by rw [ha.out]; exact putSel_upk 1 hb_ rfl rfl rfl), (by repeat (first | (with_reducible first | exact HB.out | apply below_alloc | apply pw_below_drewN | apply below_drew1) | exact HB.out)), fun _ => (by (with_reducible repeat (first | apply Kd.R_alloc | apply Kd.R_drewN | apply Kd.R_drew)); exact HO252.out), z_HO256⟩
                refine steps_cons ?_ ?_
                · rintro b a w' ⟨v251, v255, ha, Q_HB, Q_HO252, Q_HO256⟩ hb_ hon hoff
                  refine ⟨_, rfl, fun K hK => ?_⟩
                  have e24 : a.tmps[24]? = some (v251) := by rw [ha]; exact putSel_on (e := (3, 24, v251)) 1 rfl rfl (hon 3 (by kernel_rfl)) rfl
                  replace ha := Aside0.mk ha
                  have HB := Aside0.mk Q_HB
                  have HO252 := Aside0.mk (Q_HO252 (hon 3 (by kernel_rfl)))
                  obtain ⟨Ao20, co20, eo20⟩ := Kd.R_slice HO252.out
                  (first | subst eo20 | (injection eo20 with f1_ f2_ f3_; have f4_ := f1_.symm; have f5_ := f3_.symm; clear f1_ f2_ f3_; subst f4_; subst f5_))
                  refine goes_ Try.func12 (by kernel_rfl) rfl #[.slice Ao20 y250.length co20] (by rfl) rfl rfl (by first | (simp only [List.map_toArray, List.map_cons, List.map_nil, Act.eval, Array.getD_eq_getD_getElem?, Option.getD_some, e24]; done) | (simp only [List.map_toArray, List.map_cons, List.map_nil, Act.eval, Array.getD_eq_getD_getElem?, Option.getD_some, e24]; rfl)) ?_
                  with_reducible refine (csum_Of.calls kj6 _ _ y250 t253 _ ?side1 ?side2 A11.out).mono ?_
                  (case side1 => repeat (first | exact (Kd.R_reads' HO252.out).2.2 | (with_reducible refine Kd.C_alloc ?_ _) | (with_reducible refine Kd.C_drewN ?_ _) | (with_reducible refine Kd.C_drew ?_)))
                  (case side2 => exact (Kd.R_reads' HO252.out).2.1)
                  rintro e w21 ⟨rfl, hb⟩
                  refine ⟨_, rfl, ?_⟩
                  have n0_ := Aside0.mk (Kd.R_below (by (with_reducible repeat (first | apply Kd.R_alloc | apply Kd.R_drewN | apply Kd.R_drew)); exact HO252.out) hb)
                  have n1_ := Aside0.mk (below_step (by repeat (first | (with_reducible first | exact HB.out | apply below_alloc | apply pw_below_drewN | apply below_drew1) | exact HB.out)) hb)
                  have z_HO256 := fun (h0_ : b 9 = true) => (show Kd.R Kd.string 9 w21 w.heap.size (fun _ => True) v255 y254 from by first | exact (Kd.R_below (by (with_reducible repeat (first | apply Kd.R_alloc | apply Kd.R_drewN | apply Kd.R_drew)); exact (Q_HO256 h0_)) hb) | exact Kd.R_mono (Kd.R_below (by (with_reducible repeat (first | apply Kd.R_alloc | apply Kd.R_drewN | apply Kd.R_drew)); exact (Q_HO256 h0_)) hb) (fun _ h_ => by first | trivial | exact h_ | exact h_.1))
                  clear HO252
                  clear HB
                  have HO252 := n0_
                  have HB := n1_
                  clear n0_ n1_
                  (try clear hb)
                  (try clear hb2)
                  (try clear hk)
                  (try clear hi)
                  refine hK.out _ _ ⟨.slice Ao20 y250.length co20, v255, (by rw [ha.out]; exact putSel_upk 2 hb_ rfl rfl rfl), (by repeat (first | (with_reducible first | exact HB.out | apply below_alloc | apply pw_below_drewN | apply below_drew1) | exact HB.out)), fun _ => (by (with_reducible repeat (first | apply Kd.R_alloc | apply Kd.R_drewN | apply Kd.R_drew)); exact HO252.out), z_HO256⟩
                refine steps_cons ?_ ?_
                · rintro b a w' ⟨v251, v255, ha, Q_HB, Q_HO252, Q_HO256⟩ hb_ hon hoff
                  refine ⟨_, rfl, fun K hK => ?_⟩
                  have e25 : a.tmps[25]? = some (.int .i64 t253) := by rw [ha]; exact putSel_on (e := (4, 25, .int .i64 t253)) 2 rfl rfl (hon 4 (by kernel_rfl)) rfl
                  replace ha := Aside0.mk ha
                  have HB := Aside0.mk Q_HB
                  have HO252 := Aside0.mk (Q_HO252 (hon 3 (by kernel_rfl)))
                  refine value_ (w1 := w') (v := .int .i64 (wrap64 (65535 - t253))) (by rfl) rfl ?_ ?_
                  · go_simp
                    (try simp only [i64_w])
                    try rfl
                  refine hK.out _ _ ⟨v251, v255, (by rw [ha.out]; exact putSel_upk 3 hb_ rfl rfl rfl), Q_HB, Q_HO252, Q_HO256⟩
                refine steps_cons ?_ ?_
                · rintro b a w' ⟨v251, v255, ha, Q_HB, Q_HO252, Q_HO256⟩ hb_ hon hoff
                  refine ⟨_, rfl, fun K hK => ?_⟩
                  have e27 : a.tmps[27]? = some (.string x0_2) := by rw [ha]; exact (putSel_off rfl).trans rfl
                  have e28 : a.tmps[28]? = some (.int .i64 x5_6) := by rw [ha]; exact (putSel_off rfl).trans rfl
                  replace ha := Aside0.mk ha
                  have HB := Aside0.mk Q_HB
                  refine value_ (w1 := w') (v := .string (x0_2.extract (x5_6 : Int).toNat x0_2.size)) (by rfl) rfl ?_ ?_
                  · go_simp
                    (try simp only [i64_w])
                    try rfl
                  refine hK.out _ _ ⟨v251, v255, (by rw [ha.out]; exact putSel_upk 4 hb_ rfl rfl rfl), Q_HB, Q_HO252, fun h0_ => absurd ((hoff 9 (by kernel_rfl)).symm.trans h0_) (by decide)⟩
                refine steps_cons ?_ ?_
                · rintro b a w' ⟨v251, v255, ha, Q_HB, Q_HO252, Q_HO256⟩ hb_ hon hoff
                  refine ⟨_, rfl, fun K hK => ?_⟩
                  have e29 : a.tmps[29]? = some (.string (x0_2.extract (x5_6 : Int).toNat x0_2.size)) := by rw [ha]; exact putSel_on (e := (8, 29, .string (x0_2.extract (x5_6 : Int).toNat x0_2.size))) 4 rfl rfl (hon 8 (by kernel_rfl)) rfl
                  replace ha := Aside0.mk ha
                  have HB := Aside0.mk Q_HB
                  refine Kd.R_lit_step Kd.string _ 9 ?hg (N := 30) ?hd (xs := ([x0_2.extract (x5_6 : Int).toNat x0_2.size] : List ByteArray)) (inner := [.string (x0_2.extract (x5_6 : Int).toNat x0_2.size)]) (ok := fun _ => True) (okp := fun _ => True) ?hr ?hp (fun _ hk => hk) trivial (Below.refl _ _) (Nat.le_refl _) (by simp) ?_; (case hd => rfl); (case hg => rfl); (case hr => first | (go_simp; done) | (go_simp; rfl)); (case hp => exact (Reps.one (show Kd.M Kd.string _ _ _ (x0_2.extract (x5_6 : Int).toNat x0_2.size) [.string (x0_2.extract (x5_6 : Int).toNat x0_2.size)] from rfl) (Reps.none _ _)))
                  intro v255 w17 ho18 hb hg_ hnew_
                  clear hg_ hnew_
                  (first | rw [← Ny254.out] at ho18 | (simp only [Int.reduceToNat] at ho18; rw [← Ny254.out] at ho18))
                  have n0_ := Aside0.mk (Kd.R_lower ho18 (below_size (by repeat (first | (with_reducible first | exact HB.out | apply below_alloc | apply pw_below_drewN | apply below_drew1) | exact HB.out))))
                  have n1_ := Aside0.mk (below_step (by repeat (first | (with_reducible first | exact HB.out | apply below_alloc | apply pw_below_drewN | apply below_drew1) | exact HB.out)) hb)
                  have z_HO252 := fun (h0_ : b 3 = true) => (show Kd.R Kd.string 9 w17 w.heap.size (fun _ => True) v251 y250 from by first | exact (Kd.R_elder' (by (with_reducible repeat (first | apply Kd.R_alloc | apply Kd.R_drewN | apply Kd.R_drew)); exact (Q_HO252 h0_)) (Kd.R_base ho18) hb) | exact Kd.R_mono (Kd.R_elder' (by (with_reducible repeat (first | apply Kd.R_alloc | apply Kd.R_drewN | apply Kd.R_drew)); exact (Q_HO252 h0_)) (Kd.R_base ho18) hb) (fun _ h_ => by first | trivial | exact h_ | exact h_.1))
                  clear HB
                  have HO256 := n0_
                  have HB := n1_
                  clear n0_ n1_
                  clear hb ho18
                  refine hK.out _ _ ⟨v251, v255, (by rw [ha.out]; exact putSel_upk 5 hb_ rfl rfl rfl), (by repeat (first | (with_reducible first | exact HB.out | apply below_alloc | apply pw_below_drewN | apply below_drew1) | exact HB.out)), z_HO252, fun _ => (by (with_reducible repeat (first | apply Kd.R_alloc | apply Kd.R_drewN | apply Kd.R_drew)); exact HO256.out)⟩
                refine steps_cons ?_ ?_
                · rintro b a w' ⟨v251, v255, ha, Q_HB, Q_HO252, Q_HO256⟩ hb_ hon hoff
                  refine ⟨_, rfl, fun K hK => ?_⟩
                  have e30 : a.tmps[30]? = some (v255) := by rw [ha]; exact putSel_on (e := (9, 30, v255)) 5 rfl rfl (hon 9 (by kernel_rfl)) rfl
                  replace ha := Aside0.mk ha
                  have HB := Aside0.mk Q_HB
                  have HO252 := Aside0.mk (Q_HO252 (hon 3 (by kernel_rfl)))
                  have HO256 := Aside0.mk (Q_HO256 (hon 9 (by kernel_rfl)))
                  obtain ⟨Ao24, co24, eo24⟩ := Kd.R_slice HO256.out
                  (first | subst eo24 | (injection eo24 with f1_ f2_ f3_; have f4_ := f1_.symm; have f5_ := f3_.symm; clear f1_ f2_ f3_; subst f4_; subst f5_))
                  refine goes_ Try.func12 (by kernel_rfl) rfl #[.slice Ao24 y254.length co24] (by rfl) rfl rfl (by first | (simp only [List.map_toArray, List.map_cons, List.map_nil, Act.eval, Array.getD_eq_getD_getElem?, Option.getD_some, e30]; done) | (simp only [List.map_toArray, List.map_cons, List.map_nil, Act.eval, Array.getD_eq_getD_getElem?, Option.getD_some, e30]; rfl)) ?_
                  with_reducible refine (csum_Of.calls kj6 _ _ y254 t257 _ ?side1 ?side2 A14.out).mono ?_
                  (case side1 => repeat (first | exact (Kd.R_reads' HO256.out).2.2 | (with_reducible refine Kd.C_alloc ?_ _) | (with_reducible refine Kd.C_drewN ?_ _) | (with_reducible refine Kd.C_drew ?_)))
                  (case side2 => exact (Kd.R_reads' HO256.out).2.1)
                  rintro e w25 ⟨rfl, hb⟩
                  refine ⟨_, rfl, ?_⟩
                  have n0_ := Aside0.mk (Kd.R_below (by (with_reducible repeat (first | apply Kd.R_alloc | apply Kd.R_drewN | apply Kd.R_drew)); exact HO252.out) hb)
                  have n1_ := Aside0.mk (Kd.R_below (by (with_reducible repeat (first | apply Kd.R_alloc | apply Kd.R_drewN | apply Kd.R_drew)); exact HO256.out) hb)
                  have n2_ := Aside0.mk (below_step (by repeat (first | (with_reducible first | exact HB.out | apply below_alloc | apply pw_below_drewN | apply below_drew1) | exact HB.out)) hb)
                  clear HO252
                  clear HO256
                  clear HB
                  have HO252 := n0_
                  have HO256 := n1_
                  have HB := n2_
                  clear n0_ n1_ n2_
                  (try clear hb)
                  (try clear hb2)
                  (try clear hk)
                  (try clear hi)
                  refine hK.out _ _ ⟨v251, .slice Ao24 y254.length co24, (by rw [ha.out]; exact putSel_upk 6 hb_ rfl rfl rfl), (by repeat (first | (with_reducible first | exact HB.out | apply below_alloc | apply pw_below_drewN | apply below_drew1) | exact HB.out)), fun _ => (by (with_reducible repeat (first | apply Kd.R_alloc | apply Kd.R_drewN | apply Kd.R_drew)); exact HO252.out), fun _ => (by (with_reducible repeat (first | apply Kd.R_alloc | apply Kd.R_drewN | apply Kd.R_drew)); exact HO256.out)⟩
                refine steps_cons ?_ ?_
                · rintro b a w' ⟨v251, v255, ha, Q_HB, Q_HO252, Q_HO256⟩ hb_ hon hoff
                  refine ⟨_, rfl, fun K hK => ?_⟩
                  have e31 : a.tmps[31]? = some (.int .i64 t257) := by rw [ha]; exact putSel_on (e := (10, 31, .int .i64 t257)) 6 rfl rfl (hon 10 (by kernel_rfl)) rfl
                  replace ha := Aside0.mk ha
                  have HB := Aside0.mk Q_HB
                  have HO252 := Aside0.mk (Q_HO252 (hon 3 (by kernel_rfl)))
                  have HO256 := Aside0.mk (Q_HO256 (hon 9 (by kernel_rfl)))
                  refine value_ (w1 := w') (v := .int .i64 (wrap64 (65535 - t257))) (by rfl) rfl ?_ ?_
                  · go_simp
                    (try simp only [i64_w])
                    try rfl
                  refine hK.out _ _ ⟨v251, v255, (by rw [ha.out]; exact putSel_upk 7 hb_ rfl rfl rfl), Q_HB, Q_HO252, Q_HO256⟩
                refine steps_cons ?_ ?_
                · rintro b a w' ⟨v251, v255, ha, Q_HB, Q_HO252, Q_HO256⟩ hb_ hon hoff
                  refine ⟨_, rfl, fun K hK => ?_⟩
                  have e26 : a.tmps[26]? = some (.int .i64 (wrap64 (65535 - t253))) := by rw [ha]; exact putSel_on (e := (5, 26, .int .i64 (wrap64 (65535 - t253)))) 3 rfl rfl (hon 5 (by kernel_rfl)) rfl
                  replace ha := Aside0.mk ha
                  have HB := Aside0.mk Q_HB
                  have HO252 := Aside0.mk (Q_HO252 (hon 3 (by kernel_rfl)))
                  have HO256 := Aside0.mk (Q_HO256 (hon 9 (by kernel_rfl)))
                  refine value_ (w1 := w') (v := .int .i64 (wrap64 (65535 - t253))) (by rfl) rfl ?_ ?_
                  · go_simp
                    (try simp only [i64_w])
                    try rfl
                  refine hK.out _ _ ⟨v251, v255, (by rw [ha.out]; exact putSel_upk 8 hb_ rfl rfl rfl), Q_HB, Q_HO252, Q_HO256⟩
                refine steps_cons ?_ ?_
                · rintro b a w' ⟨v251, v255, ha, Q_HB, Q_HO252, Q_HO256⟩ hb_ hon hoff
                  refine ⟨_, rfl, fun K hK => ?_⟩
                  have e32 : a.tmps[32]? = some (.int .i64 (wrap64 (65535 - t257))) := by rw [ha]; exact putSel_on (e := (11, 32, .int .i64 (wrap64 (65535 - t257)))) 7 rfl rfl (hon 11 (by kernel_rfl)) rfl
                  replace ha := Aside0.mk ha
                  have HB := Aside0.mk Q_HB
                  have HO252 := Aside0.mk (Q_HO252 (hon 3 (by kernel_rfl)))
                  have HO256 := Aside0.mk (Q_HO256 (hon 9 (by kernel_rfl)))
                  refine value_ (w1 := w') (v := .int .i64 (wrap64 (65535 - t257))) (by rfl) rfl ?_ ?_
                  · go_simp
                    (try simp only [i64_w])
                    try rfl
                  refine hK.out _ _ ⟨v251, v255, (by rw [ha.out]; exact putSel_upk 9 hb_ rfl rfl rfl), Q_HB, Q_HO252, Q_HO256⟩
                exact steps_nil
              rintro b a w25 hall ⟨v251, v255, ha, Q_HB, Q_HO252, Q_HO256⟩
              clear HB
              have hb2_ := hall 2 (by kernel_rfl)
              have hb3_ := hall 3 (by kernel_rfl)
              have hb4_ := hall 4 (by kernel_rfl)
              have hb5_ := hall 5 (by kernel_rfl)
              have hb8_ := hall 8 (by kernel_rfl)
              have hb9_ := hall 9 (by kernel_rfl)
              have hb10_ := hall 10 (by kernel_rfl)
              have hb11_ := hall 11 (by kernel_rfl)
              have hb12_ := hall 12 (by kernel_rfl)
              have hb13_ := hall 13 (by kernel_rfl)
              subst ha
              simp only [putSel, hb2_, hb3_, hb4_, hb5_, hb8_, hb9_, hb10_, hb11_, hb12_, hb13_, if_true, Act.put, List.setIfInBounds_toArray, List.set_cons_zero, List.set_cons_succ]
              have HB := Aside0.mk Q_HB
              clear Q_HB
              have HO252 := Aside0.mk (Q_HO252 hb3_)
              clear Q_HO252
              have HO256 := Aside0.mk (Q_HO256 hb9_)
              clear Q_HO256
              clear hall hb2_ hb3_ hb4_ hb5_ hb8_ hb9_ hb10_ hb11_ hb12_ hb13_
              go_upto_if 37 with (fail)
              go_cut [8] (fun v8 wc => ∃ (kq : Nat) (x8_14 : Int), v8 = .int .i64 x8_14 ∧ Aside0 (gangwaylaw03_CsumHalves.j2 kq x0_2 x5_6 x8_14 = some r) ∧ Aside0 (kq ≤ kj6) ∧ Aside0 (Below w.heap.size w wc))
              case first =>
                have H := HC15.out
                clear HC15
                by_cases c26 : (wrap64 ((wrap64 (65535 - t253)) + (wrap64 (65535 - t257)))) > 65535
                · rw [if_pos c26] at H
                  have c26b0 : decide (65535 < (wrap64 ((wrap64 (65535 - t253)) + (wrap64 (65535 - t257))))) = true := decide_eq_true c26
                  clear c26
                  (first | rw [c26b0] | (simp only [i64_w, i32_w]; rw [c26b0]) | skip)
                  have H' := Aside0.mk H
                  clear H
                  go_wp2
                  go_meet
                  case rel => exact ⟨_, (wrap64 ((wrap64 ((wrap64 (65535 - t253)) + (wrap64 (65535 - t257)))) - 65535)), (by first | rfl | (simp; done) | (simp [*]; done)), H', ⟨by have := HJ2.out; have := HJ6.out; first | omega | exact Nat.le_refl _⟩, ⟨by repeat (first | (with_reducible first | exact HB.out | apply below_alloc | apply pw_below_drewN | apply below_drew1) | exact HB.out)⟩⟩
                · rw [if_neg c26] at H
                  have c26b0 : decide (65535 < (wrap64 ((wrap64 (65535 - t253)) + (wrap64 (65535 - t257))))) = false := decide_eq_false c26
                  clear c26
                  (first | rw [c26b0] | (simp only [i64_w, i32_w]; rw [c26b0]) | skip)
                  have H' := Aside0.mk H
                  clear H
                  go_wp2
                  go_meet
                  case rel => exact ⟨_, (wrap64 ((wrap64 (65535 - t253)) + (wrap64 (65535 - t257)))), (by first | rfl | (simp; done) | (simp [*]; done)), H', ⟨by have := HJ2.out; have := HJ6.out; first | omega | exact Nat.le_refl _⟩, ⟨by repeat (first | (with_reducible first | exact HB.out | apply below_alloc | apply pw_below_drewN | apply below_drew1) | exact HB.out)⟩⟩
              case rest =>
                clear HC15
                try clear c1
                try clear c2
                try clear p2
                try clear c5
                try clear c5b0
                try clear c5b1
                try clear c6
                try clear c6b0
                try clear c6b1
                try clear p6
                try clear c8
                try clear c8b0
                try clear c8b1
                try clear c9
                try clear c9b0
                try clear c9b1
                try clear c10
                try clear c10b0
                try clear c10b1
                try clear c12
                try clear c12b0
                try clear c13
                try clear c13b0
                try clear c26
                try clear c26b0
                try clear p2
                try clear p6
                obtain ⟨kq, x8_14, rfl, HA, HJ14, HB⟩ := hcut
                cases kq with
                | zero => exact absurd HA.out (by simp [gangwaylaw03_CsumHalves.j2])
                | succ kj14 =>
                  have H := HA.out
                  clear HA
                  simp only [gangwaylaw03_CsumHalves.j2] at H
                  obtain ⟨y258, hy258⟩ : ∃ y_ : List ByteArray, y_ = (([x0_2] : List ByteArray)) := ⟨_, rfl⟩
                  replace H : ((csum_Of.f kj14 y258).bind fun t261 => (if t261 = (wrap64 (65535 - x8_14)) then (if 0 ≤ x5_6 then (if x5_6 ≤ (x0_2.size : Int) then ((csum_Of.f kj14 (([x0_2.extract 0 (x5_6 : Int).toNat, x0_2.extract (x5_6 : Int).toNat x0_2.size] : List ByteArray))).bind fun t265 => ((csum_Of.f kj14 (([x0_2] : List ByteArray))).bind fun t269 => (if t265 = t269 then ((gangwaylaw03_fixed.f kj14).bind fun t270 => (some t270)) else (some false)))) else (none)) else (none)) else (some false))) = some r := by first | (rw [hy258]; with_reducible exact H) | (have H2_ := (Option.bind_some _ _).symm.trans H; rw [hy258]; with_reducible exact H2_) | (have H2_ := (Option.bind_some _ _).symm.trans H; with_reducible exact H2_) | with_reducible exact H | (rw [hy258]; exact H) | exact H
                  have Ny258 := Aside0.mk hy258
                  clear hy258
                  replace H := Option.bind_eq_some_iff.mp H
                  obtain ⟨t261, A270, H⟩ := H
                  replace H : (if t261 = (wrap64 (65535 - x8_14)) then (if 0 ≤ x5_6 then (if x5_6 ≤ (x0_2.size : Int) then ((csum_Of.f kj14 (([x0_2.extract 0 (x5_6 : Int).toNat, x0_2.extract (x5_6 : Int).toNat x0_2.size] : List ByteArray))).bind fun t265 => ((csum_Of.f kj14 (([x0_2] : List ByteArray))).bind fun t269 => (if t265 = t269 then ((gangwaylaw03_fixed.f kj14).bind fun t270 => (some t270)) else (some false)))) else (none)) else (none)) else (some false)) = some r := H
                  have A27 := Aside0.mk A270
                  clear A270
                  by_cases c28 : t261 = (wrap64 (65535 - x8_14))
                  · rw [if_pos c28] at H
                    have c28b0 : (t261 == (wrap64 (65535 - x8_14))) = true := beq_iff_eq.mpr c28
                    have c28b1 : (t261 != (wrap64 (65535 - x8_14))) = false := bne_eq_false_iff_eq.mpr c28
                    clear c28
                    by_cases c29 : 0 ≤ x5_6
                    · rw [if_pos c29] at H
                      have c29b0 := eq_true c29
                      have c29b1 : decide (0 ≤ x5_6) = true := decide_eq_true c29
                      clear c29
                      by_cases c30 : x5_6 ≤ (x0_2.size : Int)
                      · rw [if_pos c30] at H
                        have c30b0 := eq_true c30
                        have c30b1 : decide (x5_6 ≤ (x0_2.size : Int)) = true := decide_eq_true c30
                        clear c30
                        have c31b0 := eq_true (of_decide_eq_true (by first | (with_reducible assumption) | assumption) : 0 ≤ x5_6)
                        have c32b0 := eq_true (of_decide_eq_true (by first | (with_reducible assumption) | assumption) : x5_6 ≤ (x0_2.size : Int))
                        obtain ⟨y262, hy262⟩ : ∃ y_ : List ByteArray, y_ = (([x0_2.extract 0 (x5_6 : Int).toNat, x0_2.extract (x5_6 : Int).toNat x0_2.size] : List ByteArray)) := ⟨_, rfl⟩
                        replace H : ((csum_Of.f kj14 y262).bind fun t265 => ((csum_Of.f kj14 (([x0_2] : List ByteArray))).bind fun t269 => (if t265 = t269 then ((gangwaylaw03_fixed.f kj14).bind fun t270 => (some t270)) else (some false)))) = some r := by first | (rw [hy262]; with_reducible exact H) | (have H2_ := (Option.bind_some _ _).symm.trans H; rw [hy262]; with_reducible exact H2_) | (have H2_ := (Option.bind_some _ _).symm.trans H; with_reducible exact H2_) | with_reducible exact H | (rw [hy262]; exact H) | exact H
                        have Ny262 := Aside0.mk hy262
                        clear hy262
                        replace H := Option.bind_eq_some_iff.mp H
                        obtain ⟨t265, A330, H⟩ := H
                        replace H : ((csum_Of.f kj14 (([x0_2] : List ByteArray))).bind fun t269 => (if t265 = t269 then ((gangwaylaw03_fixed.f kj14).bind fun t270 => (some t270)) else (some false))) = some r := H
                        have A33 := Aside0.mk A330
                        clear A330
                        obtain ⟨y266, hy266⟩ : ∃ y_ : List ByteArray, y_ = (([x0_2] : List ByteArray)) := ⟨_, rfl⟩
                        replace H : ((csum_Of.f kj14 y266).bind fun t269 => (if t265 = t269 then ((gangwaylaw03_fixed.f kj14).bind fun t270 => (some t270)) else (some false))) = some r := by first | (rw [hy266]; with_reducible exact H) | (have H2_ := (Option.bind_some _ _).symm.trans H; rw [hy266]; with_reducible exact H2_) | (have H2_ := (Option.bind_some _ _).symm.trans H; with_reducible exact H2_) | with_reducible exact H | (rw [hy266]; exact H) | exact H
                        have Ny266 := Aside0.mk hy266
                        clear hy266
                        replace H := Option.bind_eq_some_iff.mp H
                        obtain ⟨t269, A340, H⟩ := H
                        replace H : (if t265 = t269 then ((gangwaylaw03_fixed.f kj14).bind fun t270 => (some t270)) else (some false)) = some r := H
                        have A34 := Aside0.mk A340
                        clear A340
                        by_cases c35 : t265 = t269
                        · rw [if_pos c35] at H
                          have c35b0 : (t265 == t269) = true := beq_iff_eq.mpr c35
                          have c35b1 : (t265 != t269) = false := bne_eq_false_iff_eq.mpr c35
                          clear c35
                          replace H := Option.bind_eq_some_iff.mp H
                          obtain ⟨t270, A360, H⟩ := H
                          replace H : (some t270) = some r := H
                          have A36 := Aside0.mk A360
                          clear A360
                          obtain rfl := Option.some.inj H
                          try go_wp2
                          have n0_ := Aside0.mk (below_drew1 HB.out)
                          clear HB
                          have HB := n0_
                          clear n0_
                          refine start_ (n := 24) (S := fun w' => True) (ds := []) #[false, false, false, false, false, false, false, false, false, false, false, false, false, false, false, false, false, false, false, false, false, false, false, false] (by kernel_rfl) rfl rfl trivial (fun hHeld => ?_); refine with_tabW gangwaylaw03_CsumHalves.tab7 gangwaylaw03_CsumHalves.bits7 (fun HT_ HW_ => ?_)
                          generalize wc.drew = w37 at HB hHeld ⊢
                          refine pure_ (i := 0) (N := some 40) (v := ?_) (a' := ?_) #[true, false, false, false, false, false, false, false, false, false, false, false, false, false, false, false, false, false, false, false, false, false, false, false] rfl rfl (any_of HT_.out (by kernel_rfl)) (fun _ _ _ h => h) (Or.inl ⟨by rfl, ?_⟩) ?_ ?_
                          rotate_left
                          · intro w'
                            go_simp
                            first | with_reducible rfl | (rw [if_neg (by (try simp only [decide_eq_true_eq, ByteArray.size_append, ByteArray.size_extract, eq_iff_iff, iff_true, iff_false, Nat.not_lt] at *); omega)]; try with_reducible rfl)
                          rotate_left
                          · simp only [Act.put, List.setIfInBounds_toArray, List.set_cons_zero, List.set_cons_succ, i64_w, i32_w]
                            rfl
                          refine pure_ (i := 3) (N := some 43) (v := ?_) (a' := ?_) #[true, false, false, true, false, false, false, false, false, false, false, false, false, false, false, false, false, false, false, false, false, false, false, false] rfl rfl (any_of HT_.out (by kernel_rfl)) (fun _ _ _ h => h) (Or.inl ⟨by rfl, ?_⟩) ?_ ?_
                          rotate_left
                          · intro w'
                            go_simp
                            first | with_reducible rfl | (rw [if_neg (by (try simp only [decide_eq_true_eq, ByteArray.size_append, ByteArray.size_extract, eq_iff_iff, iff_true, iff_false, Nat.not_lt] at *); omega)]; try with_reducible rfl)
                          rotate_left
                          · simp only [Act.put, List.setIfInBounds_toArray, List.set_cons_zero, List.set_cons_succ, i64_w, i32_w]
                            rfl
                          refine inv_at [1, 2, 4, 5, 6, 7, 8, 9, 10, 11, 12, 13, 14, 15, 16, 17, 18, 19, 20, 21, 22, 23] (fun a0_ b a w' => ∃ (v259 : Value) (v263 : Value) (v267 : Value), a = putSel a0_ b [(1, 41, v259), (2, 42, .int .i64 t261), (4, 44, .int .i64 (wrap64 (65535 - x8_14))), (5, 45, .bool (t261 == (wrap64 (65535 - x8_14)))), (6, 46, .bool (t261 == (wrap64 (65535 - x8_14)))), (7, 47, .string x0_2), (8, 48, .int .i64 x5_6), (9, 49, .string (x0_2.extract 0 (x5_6 : Int).toNat)), (10, 50, .string x0_2), (11, 51, .int .i64 x5_6), (12, 52, .string (x0_2.extract (x5_6 : Int).toNat x0_2.size)), (13, 53, v263), (14, 54, .int .i64 t265), (15, 55, .string x0_2), (16, 56, v267), (17, 57, .int .i64 t269), (18, 58, .bool (t265 == t269)), (19, 59, .bool (t265 == t269)), (20, 60, .bool (t265 == t269)), (21, 61, .bool t270), (22, 62, .bool t270), (23, 4, .bool t270)] ∧ (Below w.heap.size w w') ∧ (b 1 = true → Kd.R Kd.string 9 w' w.heap.size (fun _ => True) v259 y258) ∧ (b 13 = true → Kd.R Kd.string 9 w' w.heap.size (fun _ => True) v263 y262) ∧ (b 16 = true → Kd.R Kd.string 9 w' w.heap.size (fun _ => True) v267 y266)) HT_.out HW_.out (by kernel_rfl) (by kernel_rfl) ?_ ?_ ?_
                          · exact ⟨.bool false, .bool false, .bool false, by simp only [putSel, Bool.false_eq_true, if_false], HB.out, fun h_ => absurd h_ (by decide), fun h_ => absurd h_ (by decide), fun h_ => absurd h_ (by decide)⟩
                          · skip
                            clear HB
                            refine steps_cons ?_ ?_
                            · rintro b a w' ⟨v259, v263, v267, ha, Q_HB, Q_HO260, Q_HO264, Q_HO268⟩ hb_ hon hoff
                              refine ⟨_, rfl, fun K hK => ?_⟩
                              have e40 : a.tmps[40]? = some (.string x0_2) := by rw [ha]; exact (putSel_off rfl).trans rfl
                              replace ha := Aside0.mk ha
                              have HB := Aside0.mk Q_HB
                              refine Kd.R_lit_step Kd.string _ 9 ?hg (N := 41) ?hd (xs := ([x0_2] : List ByteArray)) (inner := [.string x0_2]) (ok := fun _ => True) (okp := fun _ => True) ?hr ?hp (fun _ hk => hk) trivial (Below.refl _ _) (Nat.le_refl _) (by simp) ?_; (case hd => rfl); (case hg => rfl); (case hr => first | (go_simp; done) | (go_simp; rfl)); (case hp => exact (Reps.one (show Kd.M Kd.string _ _ _ x0_2 [.string x0_2] from rfl) (Reps.none _ _)))
                              intro v259 w38 ho39 hb hg_ hnew_
                              clear hg_ hnew_
                              (first | rw [← Ny258.out] at ho39 | (simp only [Int.reduceToNat] at ho39; rw [← Ny258.out] at ho39))
                              have n0_ := Aside0.mk (Kd.R_lower ho39 (below_size (by repeat (first | (with_reducible first | exact HB.out | apply below_alloc | apply pw_below_drewN | apply below_drew1) | exact HB.out))))
                              have n1_ := Aside0.mk (below_step (by repeat (first | (with_reducible first | exact HB.out | apply below_alloc | apply pw_below_drewN | apply below_drew1) | exact HB.out)) hb)
                              clear HB
                              have HO260 := n0_
                              have HB := n1_
                              clear n0_ n1_
                              clear hb ho39
                              refine hK.out _ _ ⟨v259, v263, v267, (by rw [ha.out]; exact putSel_upk 0 hb_ rfl rfl rfl), (by repeat (first | (with_reducible first | exact HB.out | apply below_alloc | apply pw_below_drewN | apply below_drew1) | exact HB.out)), fun _ => (by (with_reducible repeat (first | apply Kd.R_alloc | apply Kd.R_drewN | apply Kd.R_drew)); exact HO260.out), fun h0_ => absurd ((hoff 13 (by kernel_rfl)).symm.trans h0_) (by decide), fun h0_ => absurd ((hoff 16 (by kernel_rfl)).symm.trans h0_) (by decide)⟩
                            refine steps_cons ?_ ?_
                            · rintro b a w' ⟨v259, v263, v267, ha, Q_HB, Q_HO260, Q_HO264, Q_HO268⟩ hb_ hon hoff
                              refine ⟨_, rfl, fun K hK => ?_⟩
                              have e41 : a.tmps[41]? = some (v259) := by rw [ha]; exact putSel_on (e := (1, 41, v259)) 0 rfl rfl (hon 1 (by kernel_rfl)) rfl
                              replace ha := Aside0.mk ha
                              have HB := Aside0.mk Q_HB
                              have HO260 := Aside0.mk (Q_HO260 (hon 1 (by kernel_rfl)))
                              obtain ⟨Ao41, co41, eo41⟩ := Kd.R_slice HO260.out
                              (first | subst eo41 | (injection eo41 with f1_ f2_ f3_; have f4_ := f1_.symm; have f5_ := f3_.symm; clear f1_ f2_ f3_; subst f4_; subst f5_))
                              refine goes_ Try.func12 (by kernel_rfl) rfl #[.slice Ao41 y258.length co41] (by rfl) rfl rfl (by first | (simp only [List.map_toArray, List.map_cons, List.map_nil, Act.eval, Array.getD_eq_getD_getElem?, Option.getD_some, e41]; done) | (simp only [List.map_toArray, List.map_cons, List.map_nil, Act.eval, Array.getD_eq_getD_getElem?, Option.getD_some, e41]; rfl)) ?_
                              with_reducible refine (csum_Of.calls kj14 _ _ y258 t261 _ ?side1 ?side2 A27.out).mono ?_
                              (case side1 => repeat (first | exact (Kd.R_reads' HO260.out).2.2 | (with_reducible refine Kd.C_alloc ?_ _) | (with_reducible refine Kd.C_drewN ?_ _) | (with_reducible refine Kd.C_drew ?_)))
                              (case side2 => exact (Kd.R_reads' HO260.out).2.1)
                              rintro e w42 ⟨rfl, hb⟩
                              refine ⟨_, rfl, ?_⟩
                              have n0_ := Aside0.mk (Kd.R_below (by (with_reducible repeat (first | apply Kd.R_alloc | apply Kd.R_drewN | apply Kd.R_drew)); exact HO260.out) hb)
                              have n1_ := Aside0.mk (below_step (by repeat (first | (with_reducible first | exact HB.out | apply below_alloc | apply pw_below_drewN | apply below_drew1) | exact HB.out)) hb)
                              clear HO260
                              clear HB
                              have HO260 := n0_
                              have HB := n1_
                              clear n0_ n1_
                              (try clear hb)
                              (try clear hb2)
                              (try clear hk)
                              (try clear hi)
                              refine hK.out _ _ ⟨.slice Ao41 y258.length co41, v263, v267, (by rw [ha.out]; exact putSel_upk 1 hb_ rfl rfl rfl), (by repeat (first | (with_reducible first | exact HB.out | apply below_alloc | apply pw_below_drewN | apply below_drew1) | exact HB.out)), fun _ => (by (with_reducible repeat (first | apply Kd.R_alloc | apply Kd.R_drewN | apply Kd.R_drew)); exact HO260.out), fun h0_ => absurd ((hoff 13 (by kernel_rfl)).symm.trans h0_) (by decide), fun h0_ => absurd ((hoff 16 (by kernel_rfl)).symm.trans h0_) (by decide)⟩
                            refine steps_cons ?_ ?_
                            · rintro b a w' ⟨v259, v263, v267, ha, Q_HB, Q_HO260, Q_HO264, Q_HO268⟩ hb_ hon hoff
                              refine ⟨_, rfl, fun K hK => ?_⟩
                              have e43 : a.tmps[43]? = some (.int .i64 x8_14) := by rw [ha]; exact (putSel_off rfl).trans rfl
                              replace ha := Aside0.mk ha
                              have HB := Aside0.mk Q_HB
                              refine value_ (w1 := w') (v := .int .i64 (wrap64 (65535 - x8_14))) (by rfl) rfl ?_ ?_
                              · go_simp
                                (try simp only [i64_w])
                                try rfl
                              refine hK.out _ _ ⟨v259, v263, v267, (by rw [ha.out]; exact putSel_upk 2 hb_ rfl rfl rfl), Q_HB, Q_HO260, fun h0_ => absurd ((hoff 13 (by kernel_rfl)).symm.trans h0_) (by decide), fun h0_ => absurd ((hoff 16 (by kernel_rfl)).symm.trans h0_) (by decide)⟩
                            refine steps_cons ?_ ?_
                            · rintro b a w' ⟨v259, v263, v267, ha, Q_HB, Q_HO260, Q_HO264, Q_HO268⟩ hb_ hon hoff
                              refine ⟨_, rfl, fun K hK => ?_⟩
                              have e42 : a.tmps[42]? = some (.int .i64 t261) := by rw [ha]; exact putSel_on (e := (2, 42, .int .i64 t261)) 1 rfl rfl (hon 2 (by kernel_rfl)) rfl
                              have e44 : a.tmps[44]? = some (.int .i64 (wrap64 (65535 - x8_14))) := by rw [ha]; exact putSel_on (e := (4, 44, .int .i64 (wrap64 (65535 - x8_14)))) 2 rfl rfl (hon 4 (by kernel_rfl)) rfl
                              replace ha := Aside0.mk ha
                              have HB := Aside0.mk Q_HB
                              have HO260 := Aside0.mk (Q_HO260 (hon 1 (by kernel_rfl)))
                              refine value_ (w1 := w') (v := .bool (t261 == (wrap64 (65535 - x8_14)))) (by rfl) rfl ?_ ?_
                              · go_simp
                                (try simp only [i64_w])
                                try rfl
                              refine hK.out _ _ ⟨v259, v263, v267, (by rw [ha.out]; exact putSel_upk 3 hb_ rfl rfl rfl), Q_HB, Q_HO260, fun h0_ => absurd ((hoff 13 (by kernel_rfl)).symm.trans h0_) (by decide), fun h0_ => absurd ((hoff 16 (by kernel_rfl)).symm.trans h0_) (by decide)⟩
                            refine steps_cons ?_ ?_
                            · rintro b a w' ⟨v259, v263, v267, ha, Q_HB, Q_HO260, Q_HO264, Q_HO268⟩ hb_ hon hoff
                              refine ⟨_, rfl, fun K hK => ?_⟩
                              have e45 : a.tmps[45]? = some (.bool (t261 == (wrap64 (65535 - x8_14)))) := by rw [ha]; exact putSel_on (e := (5, 45, .bool (t261 == (wrap64 (65535 - x8_14))))) 3 rfl rfl (hon 5 (by kernel_rfl)) rfl
                              replace ha := Aside0.mk ha
                              have HB := Aside0.mk Q_HB
                              have HO260 := Aside0.mk (Q_HO260 (hon 1 (by kernel_rfl)))
                              refine value_ (w1 := w') (v := .bool (t261 == (wrap64 (65535 - x8_14)))) (by rfl) rfl ?_ ?_
                              · go_simp
                                (try simp only [i64_w])
                                try rfl
                              refine hK.out _ _ ⟨v259, v263, v267, (by rw [ha.out]; exact putSel_upk 4 hb_ rfl rfl rfl), Q_HB, Q_HO260, fun h0_ => absurd ((hoff 13 (by kernel_rfl)).symm.trans h0_) (by decide), fun h0_ => absurd ((hoff 16 (by kernel_rfl)).symm.trans h0_) (by decide)⟩
                            refine steps_cons ?_ ?_
                            · rintro b a w' ⟨v259, v263, v267, ha, Q_HB, Q_HO260, Q_HO264, Q_HO268⟩ hb_ hon hoff
                              refine ⟨_, rfl, fun K hK => ?_⟩
                              have e0 : a.tmps[0]? = some (.string x0_2) := by rw [ha]; exact (putSel_off rfl).trans rfl
                              have e46 : a.tmps[46]? = some (.bool (t261 == (wrap64 (65535 - x8_14)))) := by rw [ha]; exact putSel_on (e := (6, 46, .bool (t261 == (wrap64 (65535 - x8_14))))) 4 rfl rfl (hon 6 (by kernel_rfl)) rfl
                              replace ha := Aside0.mk ha
                              have HB := Aside0.mk Q_HB
                              have HO260 := Aside0.mk (Q_HO260 (hon 1 (by kernel_rfl)))
                              refine value_ (w1 := w') (v := .string x0_2) (wanted_on rfl rfl rfl (e46.trans (by first | rfl | (simp [*]; done)))) rfl ?_ ?_
                              · go_simp
                                (try simp only [i64_w])
                                try rfl
                              refine hK.out _ _ ⟨v259, v263, v267, (by rw [ha.out]; exact putSel_upk 5 hb_ rfl rfl rfl), Q_HB, Q_HO260, fun h0_ => absurd ((hoff 13 (by kernel_rfl)).symm.trans h0_) (by decide), Q_HO268⟩
                            refine steps_cons ?_ ?_
                            · rintro b a w' ⟨v259, v263, v267, ha, Q_HB, Q_HO260, Q_HO264, Q_HO268⟩ hb_ hon hoff
                              refine ⟨_, rfl, fun K hK => ?_⟩
                              have e5 : a.tmps[5]? = some (.int .i64 x5_6) := by rw [ha]; exact (putSel_off rfl).trans rfl
                              have e46 : a.tmps[46]? = some (.bool (t261 == (wrap64 (65535 - x8_14)))) := by rw [ha]; exact putSel_on (e := (6, 46, .bool (t261 == (wrap64 (65535 - x8_14))))) 4 rfl rfl (hon 6 (by kernel_rfl)) rfl
                              replace ha := Aside0.mk ha
                              have HB := Aside0.mk Q_HB
                              have HO260 := Aside0.mk (Q_HO260 (hon 1 (by kernel_rfl)))
                              refine value_ (w1 := w') (v := .int .i64 x5_6) (wanted_on rfl rfl rfl (e46.trans (by first | rfl | (simp [*]; done)))) rfl ?_ ?_
                              · go_simp
                                (try simp only [i64_w])
                                try rfl
                              refine hK.out _ _ ⟨v259, v263, v267, (by rw [ha.out]; exact putSel_upk 6 hb_ rfl rfl rfl), Q_HB, Q_HO260, fun h0_ => absurd ((hoff 13 (by kernel_rfl)).symm.trans h0_) (by decide), Q_HO268⟩
                            refine steps_cons ?_ ?_
                            · rintro b a w' ⟨v259, v263, v267, ha, Q_HB, Q_HO260, Q_HO264, Q_HO268⟩ hb_ hon hoff
                              refine ⟨_, rfl, fun K hK => ?_⟩
                              have e47 : a.tmps[47]? = some (.string x0_2) := by rw [ha]; exact putSel_on (e := (7, 47, .string x0_2)) 5 rfl rfl (hon 7 (by kernel_rfl)) rfl
                              have e48 : a.tmps[48]? = some (.int .i64 x5_6) := by rw [ha]; exact putSel_on (e := (8, 48, .int .i64 x5_6)) 6 rfl rfl (hon 8 (by kernel_rfl)) rfl
                              have e46 : a.tmps[46]? = some (.bool (t261 == (wrap64 (65535 - x8_14)))) := by rw [ha]; exact putSel_on (e := (6, 46, .bool (t261 == (wrap64 (65535 - x8_14))))) 4 rfl rfl (hon 6 (by kernel_rfl)) rfl
                              replace ha := Aside0.mk ha
                              have HB := Aside0.mk Q_HB
                              have HO260 := Aside0.mk (Q_HO260 (hon 1 (by kernel_rfl)))
                              refine value_ (w1 := w') (v := .string (x0_2.extract 0 (x5_6 : Int).toNat)) (wanted_on rfl rfl rfl (e46.trans (by first | rfl | (simp [*]; done)))) rfl ?_ ?_
                              · go_simp
                                (try simp only [i64_w])
                                try rfl
                              refine hK.out _ _ ⟨v259, v263, v267, (by rw [ha.out]; exact putSel_upk 7 hb_ rfl rfl rfl), Q_HB, Q_HO260, fun h0_ => absurd ((hoff 13 (by kernel_rfl)).symm.trans h0_) (by decide), Q_HO268⟩
                            refine steps_cons ?_ ?_
                            · rintro b a w' ⟨v259, v263, v267, ha, Q_HB, Q_HO260, Q_HO264, Q_HO268⟩ hb_ hon hoff
                              refine ⟨_, rfl, fun K hK => ?_⟩
                              have e0 : a.tmps[0]? = some (.string x0_2) := by rw [ha]; exact (putSel_off rfl).trans rfl
                              have e46 : a.tmps[46]? = some (.bool (t261 == (wrap64 (65535 - x8_14)))) := by rw [ha]; exact putSel_on (e := (6, 46, .bool (t261 == (wrap64 (65535 - x8_14))))) 4 rfl rfl (hon 6 (by kernel_rfl)) rfl
                              replace ha := Aside0.mk ha
                              have HB := Aside0.mk Q_HB
                              have HO260 := Aside0.mk (Q_HO260 (hon 1 (by kernel_rfl)))
                              refine value_ (w1 := w') (v := .string x0_2) (wanted_on rfl rfl rfl (e46.trans (by first | rfl | (simp [*]; done)))) rfl ?_ ?_
                              · go_simp
                                (try simp only [i64_w])
                                try rfl
                              refine hK.out _ _ ⟨v259, v263, v267, (by rw [ha.out]; exact putSel_upk 8 hb_ rfl rfl rfl), Q_HB, Q_HO260, fun h0_ => absurd ((hoff 13 (by kernel_rfl)).symm.trans h0_) (by decide), Q_HO268⟩
                            refine steps_cons ?_ ?_
                            · rintro b a w' ⟨v259, v263, v267, ha, Q_HB, Q_HO260, Q_HO264, Q_HO268⟩ hb_ hon hoff
                              refine ⟨_, rfl, fun K hK => ?_⟩
                              have e5 : a.tmps[5]? = some (.int .i64 x5_6) := by rw [ha]; exact (putSel_off rfl).trans rfl
                              have e46 : a.tmps[46]? = some (.bool (t261 == (wrap64 (65535 - x8_14)))) := by rw [ha]; exact putSel_on (e := (6, 46, .bool (t261 == (wrap64 (65535 - x8_14))))) 4 rfl rfl (hon 6 (by kernel_rfl)) rfl
                              replace ha := Aside0.mk ha
                              have HB := Aside0.mk Q_HB
                              have HO260 := Aside0.mk (Q_HO260 (hon 1 (by kernel_rfl)))
                              refine value_ (w1 := w') (v := .int .i64 x5_6) (wanted_on rfl rfl rfl (e46.trans (by first | rfl | (simp [*]; done)))) rfl ?_ ?_
                              · go_simp
                                (try simp only [i64_w])
                                try rfl
                              refine hK.out _ _ ⟨v259, v263, v267, (by rw [ha.out]; exact putSel_upk 9 hb_ rfl rfl rfl), Q_HB, Q_HO260, fun h0_ => absurd ((hoff 13 (by kernel_rfl)).symm.trans h0_) (by decide), Q_HO268⟩
                            refine steps_cons ?_ ?_
                            · rintro b a w' ⟨v259, v263, v267, ha, Q_HB, Q_HO260, Q_HO264, Q_HO268⟩ hb_ hon hoff
                              refine ⟨_, rfl, fun K hK => ?_⟩
                              have e50 : a.tmps[50]? = some (.string x0_2) := by rw [ha]; exact putSel_on (e := (10, 50, .string x0_2)) 8 rfl rfl (hon 10 (by kernel_rfl)) rfl
                              have e51 : a.tmps[51]? = some (.int .i64 x5_6) := by rw [ha]; exact putSel_on (e := (11, 51, .int .i64 x5_6)) 9 rfl rfl (hon 11 (by kernel_rfl)) rfl
                              have e46 : a.tmps[46]? = some (.bool (t261 == (wrap64 (65535 - x8_14)))) := by rw [ha]; exact putSel_on (e := (6, 46, .bool (t261 == (wrap64 (65535 - x8_14))))) 4 rfl rfl (hon 6 (by kernel_rfl)) rfl
                              replace ha := Aside0.mk ha
                              have HB := Aside0.mk Q_HB
                              have HO260 := Aside0.mk (Q_HO260 (hon 1 (by kernel_rfl)))
                              refine value_ (w1 := w') (v := .string (x0_2.extract (x5_6 : Int).toNat x0_2.size)) (wanted_on rfl rfl rfl (e46.trans (by first | rfl | (simp [*]; done)))) rfl ?_ ?_
                              · go_simp
                                (try simp only [i64_w])
                                try rfl
                              refine hK.out _ _ ⟨v259, v263, v267, (by rw [ha.out]; exact putSel_upk 10 hb_ rfl rfl rfl), Q_HB, Q_HO260, fun h0_ => absurd ((hoff 13 (by kernel_rfl)).symm.trans h0_) (by decide), Q_HO268⟩
                            refine steps_cons ?_ ?_
                            · rintro b a w' ⟨v259, v263, v267, ha, Q_HB, Q_HO260, Q_HO264, Q_HO268⟩ hb_ hon hoff
                              refine ⟨_, rfl, fun K hK => ?_⟩
                              have e49 : a.tmps[49]? = some (.string (x0_2.extract 0 (x5_6 : Int).toNat)) := by rw [ha]; exact putSel_on (e := (9, 49, .string (x0_2.extract 0 (x5_6 : Int).toNat))) 7 rfl rfl (hon 9 (by kernel_rfl)) rfl
                              have e52 : a.tmps[52]? = some (.string (x0_2.extract (x5_6 : Int).toNat x0_2.size)) := by rw [ha]; exact putSel_on (e := (12, 52, .string (x0_2.extract (x5_6 : Int).toNat x0_2.size))) 10 rfl rfl (hon 12 (by kernel_rfl)) rfl
                              have e46 : a.tmps[46]? = some (.bool (t261 == (wrap64 (65535 - x8_14)))) := by rw [ha]; exact putSel_on (e := (6, 46, .bool (t261 == (wrap64 (65535 - x8_14))))) 4 rfl rfl (hon 6 (by kernel_rfl)) rfl
                              replace ha := Aside0.mk ha
                              have HB := Aside0.mk Q_HB
                              have HO260 := Aside0.mk (Q_HO260 (hon 1 (by kernel_rfl)))
                              refine Kd.R_lit_step Kd.string _ 9 ?hg (N := 53) ?hd (xs := ([x0_2.extract 0 (x5_6 : Int).toNat, x0_2.extract (x5_6 : Int).toNat x0_2.size] : List ByteArray)) (inner := [.string (x0_2.extract 0 (x5_6 : Int).toNat), .string (x0_2.extract (x5_6 : Int).toNat x0_2.size)]) (ok := fun _ => True) (okp := fun _ => True) ?hr ?hp (fun _ hk => hk) trivial (Below.refl _ _) (Nat.le_refl _) (by simp) ?_; (case hd => rfl); (case hg => first | exact wanted_on rfl rfl rfl (e46.trans (by first | rfl | (simp [*]; done))) | rfl); (case hr => first | (go_simp; done) | (go_simp; rfl)); (case hp => exact (Reps.one (show Kd.M Kd.string _ _ _ (x0_2.extract 0 (x5_6 : Int).toNat) [.string (x0_2.extract 0 (x5_6 : Int).toNat)] from rfl) (Reps.one (show Kd.M Kd.string _ _ _ (x0_2.extract (x5_6 : Int).toNat x0_2.size) [.string (x0_2.extract (x5_6 : Int).toNat x0_2.size)] from rfl) (Reps.none _ _))))
                              intro v263 w43 ho44 hb hg_ hnew_
                              clear hg_ hnew_
                              (first | rw [← Ny262.out] at ho44 | (simp only [Int.reduceToNat] at ho44; rw [← Ny262.out] at ho44))
                              have n0_ := Aside0.mk (Kd.R_elder' (by (with_reducible repeat (first | apply Kd.R_alloc | apply Kd.R_drewN | apply Kd.R_drew)); exact HO260.out) (Kd.R_base ho44) hb)
                              have n1_ := Aside0.mk (Kd.R_lower (Kd.R_new' ho44 (Kd.R_lt (by (with_reducible repeat (first | apply Kd.R_alloc | apply Kd.R_drewN | apply Kd.R_drew)); exact HO260.out))) (below_size (by repeat (first | (with_reducible first | exact HB.out | apply below_alloc | apply pw_below_drewN | apply below_drew1) | exact HB.out))))
                              have n2_ := Aside0.mk (below_step (by repeat (first | (with_reducible first | exact HB.out | apply below_alloc | apply pw_below_drewN | apply below_drew1) | exact HB.out)) hb)
                              have z_HO268 := fun (h0_ : b 16 = true) => (show Kd.R Kd.string 9 w43 w.heap.size (fun _ => True) v267 y266 from by first | exact (Kd.R_elder' (by (with_reducible repeat (first | apply Kd.R_alloc | apply Kd.R_drewN | apply Kd.R_drew)); exact (Q_HO268 h0_)) (Kd.R_base ho44) hb) | exact Kd.R_mono (Kd.R_elder' (by (with_reducible repeat (first | apply Kd.R_alloc | apply Kd.R_drewN | apply Kd.R_drew)); exact (Q_HO268 h0_)) (Kd.R_base ho44) hb) (fun _ h_ => by first | trivial | exact h_ | exact h_.1))
                              clear HO260
                              clear HB
                              have HO260 := n0_
                              have HO264 := n1_
                              have HB := n2_
                              clear n0_ n1_ n2_
                              clear hb ho44
                              refine hK.out _ _ ⟨v259, v263, v267, (by rw [ha.out]; exact putSel_upk 11 hb_ rfl rfl rfl), (by repeat (first | (with_reducible first | exact HB.out | apply below_alloc | apply pw_below_drewN | apply below_drew1) | exact HB.out)), fun _ => (by (with_reducible repeat (first | apply Kd.R_alloc | apply Kd.R_drewN | apply Kd.R_drew)); exact Kd.R_mono HO260.out (fun _ hk => by first | exact hk.2 | exact trivial | exact hk)), fun _ => (by (with_reducible repeat (first | apply Kd.R_alloc | apply Kd.R_drewN | apply Kd.R_drew)); exact Kd.R_mono HO264.out (fun _ hk => by first | exact hk.2 | exact trivial | exact hk)), z_HO268⟩
                            refine steps_cons ?_ ?_
                            · rintro b a w' ⟨v259, v263, v267, ha, Q_HB, Q_HO260, Q_HO264, Q_HO268⟩ hb_ hon hoff
                              refine ⟨_, rfl, fun K hK => ?_⟩
                              have e53 : a.tmps[53]? = some (v263) := by rw [ha]; exact putSel_on (e := (13, 53, v263)) 11 rfl rfl (hon 13 (by kernel_rfl)) rfl
                              have e46 : a.tmps[46]? = some (.bool (t261 == (wrap64 (65535 - x8_14)))) := by rw [ha]; exact putSel_on (e := (6, 46, .bool (t261 == (wrap64 (65535 - x8_14))))) 4 rfl rfl (hon 6 (by kernel_rfl)) rfl
                              replace ha := Aside0.mk ha
                              have HB := Aside0.mk Q_HB
                              have HO260 := Aside0.mk (Q_HO260 (hon 1 (by kernel_rfl)))
                              have HO264 := Aside0.mk (Q_HO264 (hon 13 (by kernel_rfl)))
                              obtain ⟨Ao45, co45, eo45⟩ := Kd.R_slice HO264.out
                              (first | subst eo45 | (injection eo45 with f1_ f2_ f3_; have f4_ := f1_.symm; have f5_ := f3_.symm; clear f1_ f2_ f3_; subst f4_; subst f5_))
                              refine goes_ Try.func12 (by kernel_rfl) rfl #[.slice Ao45 y262.length co45] (by first | exact wanted_on rfl rfl rfl (e46.trans (by first | rfl | (simp [*]; done))) | rfl) rfl rfl (by first | (simp only [List.map_toArray, List.map_cons, List.map_nil, Act.eval, Array.getD_eq_getD_getElem?, Option.getD_some, e53, e46]; done) | (simp only [List.map_toArray, List.map_cons, List.map_nil, Act.eval, Array.getD_eq_getD_getElem?, Option.getD_some, e53, e46]; rfl)) ?_
                              with_reducible refine (csum_Of.calls kj14 _ _ y262 t265 _ ?side1 ?side2 A33.out).mono ?_
                              (case side1 => repeat (first | exact (Kd.R_reads' HO264.out).2.2 | (with_reducible refine Kd.C_alloc ?_ _) | (with_reducible refine Kd.C_drewN ?_ _) | (with_reducible refine Kd.C_drew ?_)))
                              (case side2 => exact (Kd.R_reads' HO264.out).2.1)
                              rintro e w46 ⟨rfl, hb⟩
                              refine ⟨_, rfl, ?_⟩
                              have n0_ := Aside0.mk (Kd.R_below (by (with_reducible repeat (first | apply Kd.R_alloc | apply Kd.R_drewN | apply Kd.R_drew)); exact HO260.out) hb)
                              have n1_ := Aside0.mk (Kd.R_below (by (with_reducible repeat (first | apply Kd.R_alloc | apply Kd.R_drewN | apply Kd.R_drew)); exact HO264.out) hb)
                              have n2_ := Aside0.mk (below_step (by repeat (first | (with_reducible first | exact HB.out | apply below_alloc | apply pw_below_drewN | apply below_drew1) | exact HB.out)) hb)
                              have z_HO268 := fun (h0_ : b 16 = true) => (show Kd.R Kd.string 9 w46 w.heap.size (fun _ => True) v267 y266 from by first | exact (Kd.R_below (by (with_reducible repeat (first | apply Kd.R_alloc | apply Kd.R_drewN | apply Kd.R_drew)); exact (Q_HO268 h0_)) hb) | exact Kd.R_mono (Kd.R_below (by (with_reducible repeat (first | apply Kd.R_alloc | apply Kd.R_drewN | apply Kd.R_drew)); exact (Q_HO268 h0_)) hb) (fun _ h_ => by first | trivial | exact h_ | exact h_.1))
                              clear HO260
                              clear HO264
                              clear HB
                              have HO260 := n0_
                              have HO264 := n1_
                              have HB := n2_
                              clear n0_ n1_ n2_
                              (try clear hb)
                              (try clear hb2)
                              (try clear hk)
                              (try clear hi)
                              refine hK.out _ _ ⟨v259, .slice Ao45 y262.length co45, v267, (by rw [ha.out]; exact putSel_upk 12 hb_ rfl rfl rfl), (by repeat (first | (with_reducible first | exact HB.out | apply below_alloc | apply pw_below_drewN | apply below_drew1) | exact HB.out)), fun _ => (by (with_reducible repeat (first | apply Kd.R_alloc | apply Kd.R_drewN | apply Kd.R_drew)); exact HO260.out), fun _ => (by (with_reducible repeat (first | apply Kd.R_alloc | apply Kd.R_drewN | apply Kd.R_drew)); exact HO264.out), z_HO268⟩
                            refine steps_cons ?_ ?_
                            · rintro b a w' ⟨v259, v263, v267, ha, Q_HB, Q_HO260, Q_HO264, Q_HO268⟩ hb_ hon hoff
                              refine ⟨_, rfl, fun K hK => ?_⟩
                              have e0 : a.tmps[0]? = some (.string x0_2) := by rw [ha]; exact (putSel_off rfl).trans rfl
                              have e46 : a.tmps[46]? = some (.bool (t261 == (wrap64 (65535 - x8_14)))) := by rw [ha]; exact putSel_on (e := (6, 46, .bool (t261 == (wrap64 (65535 - x8_14))))) 4 rfl rfl (hon 6 (by kernel_rfl)) rfl
                              replace ha := Aside0.mk ha
                              have HB := Aside0.mk Q_HB
                              have HO260 := Aside0.mk (Q_HO260 (hon 1 (by kernel_rfl)))
                              refine value_ (w1 := w') (v := .string x0_2) (wanted_on rfl rfl rfl (e46.trans (by first | rfl | (simp [*]; done)))) rfl ?_ ?_
                              · go_simp
                                (try simp only [i64_w])
                                try rfl
                              refine hK.out _ _ ⟨v259, v263, v267, (by rw [ha.out]; exact putSel_upk 13 hb_ rfl rfl rfl), Q_HB, Q_HO260, Q_HO264, fun h0_ => absurd ((hoff 16 (by kernel_rfl)).symm.trans h0_) (by decide)⟩
                            refine steps_cons ?_ ?_
                            · rintro b a w' ⟨v259, v263, v267, ha, Q_HB, Q_HO260, Q_HO264, Q_HO268⟩ hb_ hon hoff
                              refine ⟨_, rfl, fun K hK => ?_⟩
                              have e55 : a.tmps[55]? = some (.string x0_2) := by rw [ha]; exact putSel_on (e := (15, 55, .string x0_2)) 13 rfl rfl (hon 15 (by kernel_rfl)) rfl
                              have e46 : a.tmps[46]? = some (.bool (t261 == (wrap64 (65535 - x8_14)))) := by rw [ha]; exact putSel_on (e := (6, 46, .bool (t261 == (wrap64 (65535 - x8_14))))) 4 rfl rfl (hon 6 (by kernel_rfl)) rfl
                              replace ha := Aside0.mk ha
                              have HB := Aside0.mk Q_HB
                              have HO260 := Aside0.mk (Q_HO260 (hon 1 (by kernel_rfl)))
                              refine Kd.R_lit_step Kd.string _ 9 ?hg (N := 56) ?hd (xs := ([x0_2] : List ByteArray)) (inner := [.string x0_2]) (ok := fun _ => True) (okp := fun _ => True) ?hr ?hp (fun _ hk => hk) trivial (Below.refl _ _) (Nat.le_refl _) (by simp) ?_; (case hd => rfl); (case hg => first | exact wanted_on rfl rfl rfl (e46.trans (by first | rfl | (simp [*]; done))) | rfl); (case hr => first | (go_simp; done) | (go_simp; rfl)); (case hp => exact (Reps.one (show Kd.M Kd.string _ _ _ x0_2 [.string x0_2] from rfl) (Reps.none _ _)))
                              intro v267 w43 ho44 hb hg_ hnew_
                              clear hg_ hnew_
                              (first | rw [← Ny266.out] at ho44 | (simp only [Int.reduceToNat] at ho44; rw [← Ny266.out] at ho44))
                              have n0_ := Aside0.mk (Kd.R_elder' (by (with_reducible repeat (first | apply Kd.R_alloc | apply Kd.R_drewN | apply Kd.R_drew)); exact HO260.out) (Kd.R_base ho44) hb)
                              have n1_ := Aside0.mk (Kd.R_lower (Kd.R_new' ho44 (Kd.R_lt (by (with_reducible repeat (first | apply Kd.R_alloc | apply Kd.R_drewN | apply Kd.R_drew)); exact HO260.out))) (below_size (by repeat (first | (with_reducible first | exact HB.out | apply below_alloc | apply pw_below_drewN | apply below_drew1) | exact HB.out))))
                              have n2_ := Aside0.mk (below_step (by repeat (first | (with_reducible first | exact HB.out | apply below_alloc | apply pw_below_drewN | apply below_drew1) | exact HB.out)) hb)
                              have z_HO264 := fun (h0_ : b 13 = true) => (show Kd.R Kd.string 9 w43 w.heap.size (fun _ => True) v263 y262 from by first | exact (Kd.R_elder' (by (with_reducible repeat (first | apply Kd.R_alloc | apply Kd.R_drewN | apply Kd.R_drew)); exact (Q_HO264 h0_)) (Kd.R_base ho44) hb) | exact Kd.R_mono (Kd.R_elder' (by (with_reducible repeat (first | apply Kd.R_alloc | apply Kd.R_drewN | apply Kd.R_drew)); exact (Q_HO264 h0_)) (Kd.R_base ho44) hb) (fun _ h_ => by first | trivial | exact h_ | exact h_.1))
                              clear HO260
                              clear HB
                              have HO260 := n0_
                              have HO268 := n1_
                              have HB := n2_
                              clear n0_ n1_ n2_
                              clear hb ho44
                              refine hK.out _ _ ⟨v259, v263, v267, (by rw [ha.out]; exact putSel_upk 14 hb_ rfl rfl rfl), (by repeat (first | (with_reducible first | exact HB.out | apply below_alloc | apply pw_below_drewN | apply below_drew1) | exact HB.out)), fun _ => (by (with_reducible repeat (first | apply Kd.R_alloc | apply Kd.R_drewN | apply Kd.R_drew)); exact Kd.R_mono HO260.out (fun _ hk => by first | exact hk.2 | exact trivial | exact hk)), z_HO264, fun _ => (by (with_reducible repeat (first | apply Kd.R_alloc | apply Kd.R_drewN | apply Kd.R_drew)); exact Kd.R_mono HO268.out (fun _ hk => by first | exact hk.2 | exact trivial | exact hk))⟩
                            refine steps_cons ?_ ?_
                            · rintro b a w' ⟨v259, v263, v267, ha, Q_HB, Q_HO260, Q_HO264, Q_HO268⟩ hb_ hon hoff
                              refine ⟨_, rfl, fun K hK => ?_⟩
                              have e56 : a.tmps[56]? = some (v267) := by rw [ha]; exact putSel_on (e := (16, 56, v267)) 14 rfl rfl (hon 16 (by kernel_rfl)) rfl
                              have e46 : a.tmps[46]? = some (.bool (t261 == (wrap64 (65535 - x8_14)))) := by rw [ha]; exact putSel_on (e := (6, 46, .bool (t261 == (wrap64 (65535 - x8_14))))) 4 rfl rfl (hon 6 (by kernel_rfl)) rfl
                              replace ha := Aside0.mk ha
                              have HB := Aside0.mk Q_HB
                              have HO260 := Aside0.mk (Q_HO260 (hon 1 (by kernel_rfl)))
                              have HO264 := Aside0.mk (Q_HO264 (hon 13 (by kernel_rfl)))
                              have HO268 := Aside0.mk (Q_HO268 (hon 16 (by kernel_rfl)))
                              obtain ⟨Ao49, co49, eo49⟩ := Kd.R_slice HO268.out
                              (first | subst eo49 | (injection eo49 with f1_ f2_ f3_; have f4_ := f1_.symm; have f5_ := f3_.symm; clear f1_ f2_ f3_; subst f4_; subst f5_))
                              refine goes_ Try.func12 (by kernel_rfl) rfl #[.slice Ao49 y266.length co49] (by first | exact wanted_on rfl rfl rfl (e46.trans (by first | rfl | (simp [*]; done))) | rfl) rfl rfl (by first | (simp only [List.map_toArray, List.map_cons, List.map_nil, Act.eval, Array.getD_eq_getD_getElem?, Option.getD_some, e56, e46]; done) | (simp only [List.map_toArray, List.map_cons, List.map_nil, Act.eval, Array.getD_eq_getD_getElem?, Option.getD_some, e56, e46]; rfl)) ?_
                              with_reducible refine (csum_Of.calls kj14 _ _ y266 t269 _ ?side1 ?side2 A34.out).mono ?_
                              (case side1 => repeat (first | exact (Kd.R_reads' HO268.out).2.2 | (with_reducible refine Kd.C_alloc ?_ _) | (with_reducible refine Kd.C_drewN ?_ _) | (with_reducible refine Kd.C_drew ?_)))
                              (case side2 => exact (Kd.R_reads' HO268.out).2.1)
                              rintro e w50 ⟨rfl, hb⟩
                              refine ⟨_, rfl, ?_⟩
                              have n0_ := Aside0.mk (Kd.R_below (by (with_reducible repeat (first | apply Kd.R_alloc | apply Kd.R_drewN | apply Kd.R_drew)); exact HO260.out) hb)
                              have n1_ := Aside0.mk (Kd.R_below (by (with_reducible repeat (first | apply Kd.R_alloc | apply Kd.R_drewN | apply Kd.R_drew)); exact HO264.out) hb)
                              have n2_ := Aside0.mk (Kd.R_below (by (with_reducible repeat (first | apply Kd.R_alloc | apply Kd.R_drewN | apply Kd.R_drew)); exact HO268.out) hb)
                              have n3_ := Aside0.mk (below_step (by repeat (first | (with_reducible first | exact HB.out | apply below_alloc | apply pw_below_drewN | apply below_drew1) | exact HB.out)) hb)
                              clear HO260
                              clear HO264
                              clear HO268
                              clear HB
                              have HO260 := n0_
                              have HO264 := n1_
                              have HO268 := n2_
                              have HB := n3_
                              clear n0_ n1_ n2_ n3_
                              (try clear hb)
                              (try clear hb2)
                              (try clear hk)
                              (try clear hi)
                              refine hK.out _ _ ⟨v259, v263, .slice Ao49 y266.length co49, (by rw [ha.out]; exact putSel_upk 15 hb_ rfl rfl rfl), (by repeat (first | (with_reducible first | exact HB.out | apply below_alloc | apply pw_below_drewN | apply below_drew1) | exact HB.out)), fun _ => (by (with_reducible repeat (first | apply Kd.R_alloc | apply Kd.R_drewN | apply Kd.R_drew)); exact HO260.out), fun _ => (by (with_reducible repeat (first | apply Kd.R_alloc | apply Kd.R_drewN | apply Kd.R_drew)); exact HO264.out), fun _ => (by (with_reducible repeat (first | apply Kd.R_alloc | apply Kd.R_drewN | apply Kd.R_drew)); exact HO268.out)⟩
                            refine steps_cons ?_ ?_
                            · rintro b a w' ⟨v259, v263, v267, ha, Q_HB, Q_HO260, Q_HO264, Q_HO268⟩ hb_ hon hoff
                              refine ⟨_, rfl, fun K hK => ?_⟩
                              have e54 : a.tmps[54]? = some (.int .i64 t265) := by rw [ha]; exact putSel_on (e := (14, 54, .int .i64 t265)) 12 rfl rfl (hon 14 (by kernel_rfl)) rfl
                              have e57 : a.tmps[57]? = some (.int .i64 t269) := by rw [ha]; exact putSel_on (e := (17, 57, .int .i64 t269)) 15 rfl rfl (hon 17 (by kernel_rfl)) rfl
                              have e46 : a.tmps[46]? = some (.bool (t261 == (wrap64 (65535 - x8_14)))) := by rw [ha]; exact putSel_on (e := (6, 46, .bool (t261 == (wrap64 (65535 - x8_14))))) 4 rfl rfl (hon 6 (by kernel_rfl)) rfl
                              replace ha := Aside0.mk ha
                              have HB := Aside0.mk Q_HB
                              have HO260 := Aside0.mk (Q_HO260 (hon 1 (by kernel_rfl)))
                              have HO264 := Aside0.mk (Q_HO264 (hon 13 (by kernel_rfl)))
                              have HO268 := Aside0.mk (Q_HO268 (hon 16 (by kernel_rfl)))
                              refine value_ (w1 := w') (v := .bool (t265 == t269)) (wanted_on rfl rfl rfl (e46.trans (by first | rfl | (simp [*]; done)))) rfl ?_ ?_
                              · go_simp
                                (try simp only [i64_w])
                                try rfl
                              refine hK.out _ _ ⟨v259, v263, v267, (by rw [ha.out]; exact putSel_upk 16 hb_ rfl rfl rfl), Q_HB, Q_HO260, Q_HO264, Q_HO268⟩
                            refine steps_cons ?_ ?_
                            · rintro b a w' ⟨v259, v263, v267, ha, Q_HB, Q_HO260, Q_HO264, Q_HO268⟩ hb_ hon hoff
                              refine ⟨_, rfl, fun K hK => ?_⟩
                              have e46 : a.tmps[46]? = some (.bool (t261 == (wrap64 (65535 - x8_14)))) := by rw [ha]; exact putSel_on (e := (6, 46, .bool (t261 == (wrap64 (65535 - x8_14))))) 4 rfl rfl (hon 6 (by kernel_rfl)) rfl
                              have e58 : a.tmps[58]? = some (.bool (t265 == t269)) := by rw [ha]; exact putSel_on (e := (18, 58, .bool (t265 == t269))) 16 rfl rfl (hon 18 (by kernel_rfl)) rfl
                              replace ha := Aside0.mk ha
                              have HB := Aside0.mk Q_HB
                              have HO260 := Aside0.mk (Q_HO260 (hon 1 (by kernel_rfl)))
                              have HO264 := Aside0.mk (Q_HO264 (hon 13 (by kernel_rfl)))
                              have HO268 := Aside0.mk (Q_HO268 (hon 16 (by kernel_rfl)))
                              refine value_ (w1 := w') (v := .bool (t265 == t269)) (by rfl) rfl ?_ ?_
                              · go_simp
                                (try simp only [i64_w])
                                try rfl
                              refine hK.out _ _ ⟨v259, v263, v267, (by rw [ha.out]; exact putSel_upk 17 hb_ rfl rfl rfl), Q_HB, Q_HO260, Q_HO264, Q_HO268⟩
                            refine steps_cons ?_ ?_
                            · rintro b a w' ⟨v259, v263, v267, ha, Q_HB, Q_HO260, Q_HO264, Q_HO268⟩ hb_ hon hoff
                              refine ⟨_, rfl, fun K hK => ?_⟩
                              have e59 : a.tmps[59]? = some (.bool (t265 == t269)) := by rw [ha]; exact putSel_on (e := (19, 59, .bool (t265 == t269))) 17 rfl rfl (hon 19 (by kernel_rfl)) rfl
                              replace ha := Aside0.mk ha
                              have HB := Aside0.mk Q_HB
                              have HO260 := Aside0.mk (Q_HO260 (hon 1 (by kernel_rfl)))
                              have HO264 := Aside0.mk (Q_HO264 (hon 13 (by kernel_rfl)))
                              have HO268 := Aside0.mk (Q_HO268 (hon 16 (by kernel_rfl)))
                              refine value_ (w1 := w') (v := .bool (t265 == t269)) (by rfl) rfl ?_ ?_
                              · go_simp
                                (try simp only [i64_w])
                                try rfl
                              refine hK.out _ _ ⟨v259, v263, v267, (by rw [ha.out]; exact putSel_upk 18 hb_ rfl rfl rfl), Q_HB, Q_HO260, Q_HO264, Q_HO268⟩
                            refine steps_cons ?_ ?_
                            · rintro b a w' ⟨v259, v263, v267, ha, Q_HB, Q_HO260, Q_HO264, Q_HO268⟩ hb_ hon hoff
                              refine ⟨_, rfl, fun K hK => ?_⟩
                              have e60 : a.tmps[60]? = some (.bool (t265 == t269)) := by rw [ha]; exact putSel_on (e := (20, 60, .bool (t265 == t269))) 18 rfl rfl (hon 20 (by kernel_rfl)) rfl
                              replace ha := Aside0.mk ha
                              have HB := Aside0.mk Q_HB
                              have HO260 := Aside0.mk (Q_HO260 (hon 1 (by kernel_rfl)))
                              have HO264 := Aside0.mk (Q_HO264 (hon 13 (by kernel_rfl)))
                              have HO268 := Aside0.mk (Q_HO268 (hon 16 (by kernel_rfl)))
                              refine goes_ Try.func11 (by kernel_rfl) rfl #[] (by first | exact wanted_on rfl rfl rfl (e60.trans (by first | rfl | (simp [*]; done))) | rfl) rfl rfl (by first | (simp only [List.map_toArray, List.map_cons, List.map_nil, Act.eval, Array.getD_eq_getD_getElem?, Option.getD_some, e60]; done) | (simp only [List.map_toArray, List.map_cons, List.map_nil, Act.eval, Array.getD_eq_getD_getElem?, Option.getD_some, e60]; rfl)) ?_
                              with_reducible refine (gangwaylaw03_fixed.calls kj14  t270 _ A36.out).mono ?_
                              rintro e w51 ⟨rfl, hb⟩
                              refine ⟨_, rfl, ?_⟩
                              have n0_ := Aside0.mk (Kd.R_below (by (with_reducible repeat (first | apply Kd.R_alloc | apply Kd.R_drewN | apply Kd.R_drew)); exact HO260.out) hb)
                              have n1_ := Aside0.mk (Kd.R_below (by (with_reducible repeat (first | apply Kd.R_alloc | apply Kd.R_drewN | apply Kd.R_drew)); exact HO264.out) hb)
                              have n2_ := Aside0.mk (Kd.R_below (by (with_reducible repeat (first | apply Kd.R_alloc | apply Kd.R_drewN | apply Kd.R_drew)); exact HO268.out) hb)
                              have n3_ := Aside0.mk (below_step (by repeat (first | (with_reducible first | exact HB.out | apply below_alloc | apply pw_below_drewN | apply below_drew1) | exact HB.out)) hb)
                              clear HO260
                              clear HO264
                              clear HO268
                              clear HB
                              have HO260 := n0_
                              have HO264 := n1_
                              have HO268 := n2_
                              have HB := n3_
                              clear n0_ n1_ n2_ n3_
                              (try clear hb)
                              (try clear hb2)
                              (try clear hk)
                              (try clear hi)
                              refine hK.out _ _ ⟨v259, v263, v267, (by rw [ha.out]; exact putSel_upk 19 hb_ rfl rfl rfl), (by repeat (first | (with_reducible first | exact HB.out | apply below_alloc | apply pw_below_drewN | apply below_drew1) | exact HB.out)), fun _ => (by (with_reducible repeat (first | apply Kd.R_alloc | apply Kd.R_drewN | apply Kd.R_drew)); exact HO260.out), fun _ => (by (with_reducible repeat (first | apply Kd.R_alloc | apply Kd.R_drewN | apply Kd.R_drew)); exact HO264.out), fun _ => (by (with_reducible repeat (first | apply Kd.R_alloc | apply Kd.R_drewN | apply Kd.R_drew)); exact HO268.out)⟩
                            refine steps_cons ?_ ?_
                            · rintro b a w' ⟨v259, v263, v267, ha, Q_HB, Q_HO260, Q_HO264, Q_HO268⟩ hb_ hon hoff
                              refine ⟨_, rfl, fun K hK => ?_⟩
                              have e60 : a.tmps[60]? = some (.bool (t265 == t269)) := by rw [ha]; exact putSel_on (e := (20, 60, .bool (t265 == t269))) 18 rfl rfl (hon 20 (by kernel_rfl)) rfl
                              have e61 : a.tmps[61]? = some (.bool t270) := by rw [ha]; exact putSel_on (e := (21, 61, .bool t270)) 19 rfl rfl (hon 21 (by kernel_rfl)) rfl
                              replace ha := Aside0.mk ha
                              have HB := Aside0.mk Q_HB
                              have HO260 := Aside0.mk (Q_HO260 (hon 1 (by kernel_rfl)))
                              have HO264 := Aside0.mk (Q_HO264 (hon 13 (by kernel_rfl)))
                              have HO268 := Aside0.mk (Q_HO268 (hon 16 (by kernel_rfl)))
                              refine value_ (w1 := w') (v := .bool t270) (by rfl) rfl ?_ ?_
                              · go_simp
                                (try simp only [i64_w])
                                try rfl
                              refine hK.out _ _ ⟨v259, v263, v267, (by rw [ha.out]; exact putSel_upk 20 hb_ rfl rfl rfl), Q_HB, Q_HO260, Q_HO264, Q_HO268⟩
                            refine steps_cons ?_ ?_
                            · rintro b a w' ⟨v259, v263, v267, ha, Q_HB, Q_HO260, Q_HO264, Q_HO268⟩ hb_ hon hoff
                              refine ⟨_, rfl, fun K hK => ?_⟩
                              have e62 : a.tmps[62]? = some (.bool t270) := by rw [ha]; exact putSel_on (e := (22, 62, .bool t270)) 20 rfl rfl (hon 22 (by kernel_rfl)) rfl
                              replace ha := Aside0.mk ha
                              have HB := Aside0.mk Q_HB
                              have HO260 := Aside0.mk (Q_HO260 (hon 1 (by kernel_rfl)))
                              have HO264 := Aside0.mk (Q_HO264 (hon 13 (by kernel_rfl)))
                              have HO268 := Aside0.mk (Q_HO268 (hon 16 (by kernel_rfl)))
                              refine value_ (w1 := w') (v := .bool t270) (by rfl) rfl ?_ ?_
                              · go_simp
                                (try simp only [i64_w])
                                try rfl
                              refine hK.out _ _ ⟨v259, v263, v267, (by rw [ha.out]; exact putSel_upk 21 hb_ rfl rfl rfl), Q_HB, Q_HO260, Q_HO264, Q_HO268⟩
                            exact steps_nil
                          rintro b a w51 hall ⟨v259, v263, v267, ha, Q_HB, Q_HO260, Q_HO264, Q_HO268⟩
                          clear HB
                          have hb1_ := hall 1 (by kernel_rfl)
                          have hb2_ := hall 2 (by kernel_rfl)
                          have hb4_ := hall 4 (by kernel_rfl)
                          have hb5_ := hall 5 (by kernel_rfl)
                          have hb6_ := hall 6 (by kernel_rfl)
                          have hb7_ := hall 7 (by kernel_rfl)
                          have hb8_ := hall 8 (by kernel_rfl)
                          have hb9_ := hall 9 (by kernel_rfl)
                          have hb10_ := hall 10 (by kernel_rfl)
                          have hb11_ := hall 11 (by kernel_rfl)
                          have hb12_ := hall 12 (by kernel_rfl)
                          have hb13_ := hall 13 (by kernel_rfl)
                          have hb14_ := hall 14 (by kernel_rfl)
                          have hb15_ := hall 15 (by kernel_rfl)
                          have hb16_ := hall 16 (by kernel_rfl)
                          have hb17_ := hall 17 (by kernel_rfl)
                          have hb18_ := hall 18 (by kernel_rfl)
                          have hb19_ := hall 19 (by kernel_rfl)
                          have hb20_ := hall 20 (by kernel_rfl)
                          have hb21_ := hall 21 (by kernel_rfl)
                          have hb22_ := hall 22 (by kernel_rfl)
                          have hb23_ := hall 23 (by kernel_rfl)
                          subst ha
                          simp only [putSel, hb1_, hb2_, hb4_, hb5_, hb6_, hb7_, hb8_, hb9_, hb10_, hb11_, hb12_, hb13_, hb14_, hb15_, hb16_, hb17_, hb18_, hb19_, hb20_, hb21_, hb22_, hb23_, if_true, Act.put, List.setIfInBounds_toArray, List.set_cons_zero, List.set_cons_succ]
                          have HB := Aside0.mk Q_HB
                          clear Q_HB
                          have HO260 := Aside0.mk (Q_HO260 hb1_)
                          clear Q_HO260
                          have HO264 := Aside0.mk (Q_HO264 hb13_)
                          clear Q_HO264
                          have HO268 := Aside0.mk (Q_HO268 hb16_)
                          clear Q_HO268
                          clear hall hb1_ hb2_ hb4_ hb5_ hb6_ hb7_ hb8_ hb9_ hb10_ hb11_ hb12_ hb13_ hb14_ hb15_ hb16_ hb17_ hb18_ hb19_ hb20_ hb21_ hb22_ hb23_
                          try go_wp2
                          go_ret
                          exact ⟨by first | rfl | (simp [errW_none, errW_some] <;> rfl) | (simp [*, errW_none, errW_some] <;> rfl), by repeat (first | (with_reducible first | exact HB.out | apply below_alloc | apply pw_below_drewN | apply below_drew1) | exact HB.out)⟩
                        · rw [if_neg c35] at H
                          have c35b0 : (t265 == t269) = false := beq_eq_false_iff_ne.mpr c35
                          have c35b1 : (t265 != t269) = true := bne_iff_ne.mpr c35
                          obtain rfl := Option.some.inj H
                          try go_wp2
                          have n0_ := Aside0.mk (below_drew1 HB.out)
                          clear HB
                          have HB := n0_
                          clear n0_
                          refine start_ (n := 24) (S := fun w' => True) (ds := []) #[false, false, false, false, false, false, false, false, false, false, false, false, false, false, false, false, false, false, false, false, false, false, false, false] (by kernel_rfl) rfl rfl trivial (fun hHeld => ?_); refine with_tabW gangwaylaw03_CsumHalves.tab7 gangwaylaw03_CsumHalves.bits7 (fun HT_ HW_ => ?_)
                          generalize wc.drew = w52 at HB hHeld ⊢
                          refine pure_ (i := 0) (N := some 40) (v := ?_) (a' := ?_) #[true, false, false, false, false, false, false, false, false, false, false, false, false, false, false, false, false, false, false, false, false, false, false, false] rfl rfl (any_of HT_.out (by kernel_rfl)) (fun _ _ _ h => h) (Or.inl ⟨by rfl, ?_⟩) ?_ ?_
                          rotate_left
                          · intro w'
                            go_simp
                            first | with_reducible rfl | (rw [if_neg (by (try simp only [decide_eq_true_eq, ByteArray.size_append, ByteArray.size_extract, eq_iff_iff, iff_true, iff_false, Nat.not_lt] at *); omega)]; try with_reducible rfl)
                          rotate_left
                          · simp only [Act.put, List.setIfInBounds_toArray, List.set_cons_zero, List.set_cons_succ, i64_w, i32_w]
                            rfl
                          refine pure_ (i := 3) (N := some 43) (v := ?_) (a' := ?_) #[true, false, false, true, false, false, false, false, false, false, false, false, false, false, false, false, false, false, false, false, false, false, false, false] rfl rfl (any_of HT_.out (by kernel_rfl)) (fun _ _ _ h => h) (Or.inl ⟨by rfl, ?_⟩) ?_ ?_
                          rotate_left
                          · intro w'
                            go_simp
                            first | with_reducible rfl | (rw [if_neg (by (try simp only [decide_eq_true_eq, ByteArray.size_append, ByteArray.size_extract, eq_iff_iff, iff_true, iff_false, Nat.not_lt] at *); omega)]; try with_reducible rfl)
                          rotate_left
                          · simp only [Act.put, List.setIfInBounds_toArray, List.set_cons_zero, List.set_cons_succ, i64_w, i32_w]
                            rfl
                          refine inv_at [1, 2, 4, 5, 6, 7, 8, 9, 10, 11, 12, 13, 14, 15, 16, 17, 18, 19, 20, 21, 22, 23] (fun a0_ b a w' => ∃ (v259 : Value) (v263 : Value) (v267 : Value), a = putSel a0_ b [(1, 41, v259), (2, 42, .int .i64 t261), (4, 44, .int .i64 (wrap64 (65535 - x8_14))), (5, 45, .bool (t261 == (wrap64 (65535 - x8_14)))), (6, 46, .bool (t261 == (wrap64 (65535 - x8_14)))), (7, 47, .string x0_2), (8, 48, .int .i64 x5_6), (9, 49, .string (x0_2.extract 0 (x5_6 : Int).toNat)), (10, 50, .string x0_2), (11, 51, .int .i64 x5_6), (12, 52, .string (x0_2.extract (x5_6 : Int).toNat x0_2.size)), (13, 53, v263), (14, 54, .int .i64 t265), (15, 55, .string x0_2), (16, 56, v267), (17, 57, .int .i64 t269), (18, 58, .bool (t265 == t269)), (19, 59, .bool (t265 == t269)), (20, 60, .bool (t265 == t269)), (21, 61, undef), (22, 62, .bool false), (23, 4, .bool false)] ∧ (Below w.heap.size w w') ∧ (b 1 = true → Kd.R Kd.string 9 w' w.heap.size (fun _ => True) v259 y258) ∧ (b 13 = true → Kd.R Kd.string 9 w' w.heap.size (fun _ => True) v263 y262) ∧ (b 16 = true → Kd.R Kd.string 9 w' w.heap.size (fun _ => True) v267 y266)) HT_.out HW_.out (by kernel_rfl) (by kernel_rfl) ?_ ?_ ?_
                          · exact ⟨.bool false, .bool false, .bool false, by simp only [putSel, Bool.false_eq_true, if_false], HB.out, fun h_ => absurd h_ (by decide), fun h_ => absurd h_ (by decide), fun h_ => absurd h_ (by decide)⟩
                          · skip
                            clear HB
                            refine steps_cons ?_ ?_
                            · rintro b a w' ⟨v259, v263, v267, ha, Q_HB, Q_HO260, Q_HO264, Q_HO268⟩ hb_ hon hoff
                              refine ⟨_, rfl, fun K hK => ?_⟩
                              have e40 : a.tmps[40]? = some (.string x0_2) := by rw [ha]; exact (putSel_off rfl).trans rfl
                              replace ha := Aside0.mk ha
                              have HB := Aside0.mk Q_HB
                              refine Kd.R_lit_step Kd.string _ 9 ?hg (N := 41) ?hd (xs := ([x0_2] : List ByteArray)) (inner := [.string x0_2]) (ok := fun _ => True) (okp := fun _ => True) ?hr ?hp (fun _ hk => hk) trivial (Below.refl _ _) (Nat.le_refl _) (by simp) ?_; (case hd => rfl); (case hg => rfl); (case hr => first | (go_simp; done) | (go_simp; rfl)); (case hp => exact (Reps.one (show Kd.M Kd.string _ _ _ x0_2 [.string x0_2] from rfl) (Reps.none _ _)))
                              intro v259 w53 ho54 hb hg_ hnew_
                              clear hg_ hnew_
                              (first | rw [← Ny258.out] at ho54 | (simp only [Int.reduceToNat] at ho54; rw [← Ny258.out] at ho54))
                              have n0_ := Aside0.mk (Kd.R_lower ho54 (below_size (by repeat (first | (with_reducible first | exact HB.out | apply below_alloc | apply pw_below_drewN | apply below_drew1) | exact HB.out))))
                              have n1_ := Aside0.mk (below_step (by repeat (first | (with_reducible first | exact HB.out | apply below_alloc | apply pw_below_drewN | apply below_drew1) | exact HB.out)) hb)
                              clear HB
                              have HO260 := n0_
                              have HB := n1_
                              clear n0_ n1_
                              clear hb ho54
                              refine hK.out _ _ ⟨v259, v263, v267, (by rw [ha.out]; exact putSel_upk 0 hb_ rfl rfl rfl), (by repeat (first | (with_reducible first | exact HB.out | apply below_alloc | apply pw_below_drewN | apply below_drew1) | exact HB.out)), fun _ => (by (with_reducible repeat (first | apply Kd.R_alloc | apply Kd.R_drewN | apply Kd.R_drew)); exact HO260.out), fun h0_ => absurd ((hoff 13 (by kernel_rfl)).symm.trans h0_) (by decide), fun h0_ => absurd ((hoff 16 (by kernel_rfl)).symm.trans h0_) (by decide)⟩
                            refine steps_cons ?_ ?_
                            · rintro b a w' ⟨v259, v263, v267, ha, Q_HB, Q_HO260, Q_HO264, Q_HO268⟩ hb_ hon hoff
                              refine ⟨_, rfl, fun K hK => ?_⟩
                              have e41 : a.tmps[41]? = some (v259) := by rw [ha]; exact putSel_on (e := (1, 41, v259)) 0 rfl rfl (hon 1 (by kernel_rfl)) rfl
                              replace ha := Aside0.mk ha
                              have HB := Aside0.mk Q_HB
                              have HO260 := Aside0.mk (Q_HO260 (hon 1 (by kernel_rfl)))
                              obtain ⟨Ao56, co56, eo56⟩ := Kd.R_slice HO260.out
                              (first | subst eo56 | (injection eo56 with f1_ f2_ f3_; have f4_ := f1_.symm; have f5_ := f3_.symm; clear f1_ f2_ f3_; subst f4_; subst f5_))
                              refine goes_ Try.func12 (by kernel_rfl) rfl #[.slice Ao56 y258.length co56] (by rfl) rfl rfl (by first | (simp only [List.map_toArray, List.map_cons, List.map_nil, Act.eval, Array.getD_eq_getD_getElem?, Option.getD_some, e41]; done) | (simp only [List.map_toArray, List.map_cons, List.map_nil, Act.eval, Array.getD_eq_getD_getElem?, Option.getD_some, e41]; rfl)) ?_
                              with_reducible refine (csum_Of.calls kj14 _ _ y258 t261 _ ?side1 ?side2 A27.out).mono ?_
                              (case side1 => repeat (first | exact (Kd.R_reads' HO260.out).2.2 | (with_reducible refine Kd.C_alloc ?_ _) | (with_reducible refine Kd.C_drewN ?_ _) | (with_reducible refine Kd.C_drew ?_)))
                              (case side2 => exact (Kd.R_reads' HO260.out).2.1)
                              rintro e w57 ⟨rfl, hb⟩
                              refine ⟨_, rfl, ?_⟩
                              have n0_ := Aside0.mk (Kd.R_below (by (with_reducible repeat (first | apply Kd.R_alloc | apply Kd.R_drewN | apply Kd.R_drew)); exact HO260.out) hb)
                              have n1_ := Aside0.mk (below_step (by repeat (first | (with_reducible first | exact HB.out | apply below_alloc | apply pw_below_drewN | apply below_drew1) | exact HB.out)) hb)
                              clear HO260
                              clear HB
                              have HO260 := n0_
                              have HB := n1_
                              clear n0_ n1_
                              (try clear hb)
                              (try clear hb2)
                              (try clear hk)
                              (try clear hi)
                              refine hK.out _ _ ⟨.slice Ao56 y258.length co56, v263, v267, (by rw [ha.out]; exact putSel_upk 1 hb_ rfl rfl rfl), (by repeat (first | (with_reducible first | exact HB.out | apply below_alloc | apply pw_below_drewN | apply below_drew1) | exact HB.out)), fun _ => (by (with_reducible repeat (first | apply Kd.R_alloc | apply Kd.R_drewN | apply Kd.R_drew)); exact HO260.out), fun h0_ => absurd ((hoff 13 (by kernel_rfl)).symm.trans h0_) (by decide), fun h0_ => absurd ((hoff 16 (by kernel_rfl)).symm.trans h0_) (by decide)⟩
                            refine steps_cons ?_ ?_
                            · rintro b a w' ⟨v259, v263, v267, ha, Q_HB, Q_HO260, Q_HO264, Q_HO268⟩ hb_ hon hoff
                              refine ⟨_, rfl, fun K hK => ?_⟩
                              have e43 : a.tmps[43]? = some (.int .i64 x8_14) := by rw [ha]; exact (putSel_off rfl).trans rfl
                              replace ha := Aside0.mk ha
                              have HB := Aside0.mk Q_HB
                              refine value_ (w1 := w') (v := .int .i64 (wrap64 (65535 - x8_14))) (by rfl) rfl ?_ ?_
                              · go_simp
                                (try simp only [i64_w])
                                try rfl
                              refine hK.out _ _ ⟨v259, v263, v267, (by rw [ha.out]; exact putSel_upk 2 hb_ rfl rfl rfl), Q_HB, Q_HO260, fun h0_ => absurd ((hoff 13 (by kernel_rfl)).symm.trans h0_) (by decide), fun h0_ => absurd ((hoff 16 (by kernel_rfl)).symm.trans h0_) (by decide)⟩
                            refine steps_cons ?_ ?_
                            · rintro b a w' ⟨v259, v263, v267, ha, Q_HB, Q_HO260, Q_HO264, Q_HO268⟩ hb_ hon hoff
                              refine ⟨_, rfl, fun K hK => ?_⟩
                              have e42 : a.tmps[42]? = some (.int .i64 t261) := by rw [ha]; exact putSel_on (e := (2, 42, .int .i64 t261)) 1 rfl rfl (hon 2 (by kernel_rfl)) rfl
                              have e44 : a.tmps[44]? = some (.int .i64 (wrap64 (65535 - x8_14))) := by rw [ha]; exact putSel_on (e := (4, 44, .int .i64 (wrap64 (65535 - x8_14)))) 2 rfl rfl (hon 4 (by kernel_rfl)) rfl
                              replace ha := Aside0.mk ha
                              have HB := Aside0.mk Q_HB
                              have HO260 := Aside0.mk (Q_HO260 (hon 1 (by kernel_rfl)))
                              refine value_ (w1 := w') (v := .bool (t261 == (wrap64 (65535 - x8_14)))) (by rfl) rfl ?_ ?_
                              · go_simp
                                (try simp only [i64_w])
                                try rfl
                              refine hK.out _ _ ⟨v259, v263, v267, (by rw [ha.out]; exact putSel_upk 3 hb_ rfl rfl rfl), Q_HB, Q_HO260, fun h0_ => absurd ((hoff 13 (by kernel_rfl)).symm.trans h0_) (by decide), fun h0_ => absurd ((hoff 16 (by kernel_rfl)).symm.trans h0_) (by decide)⟩
                            refine steps_cons ?_ ?_
                            · rintro b a w' ⟨v259, v263, v267, ha, Q_HB, Q_HO260, Q_HO264, Q_HO268⟩ hb_ hon hoff
                              refine ⟨_, rfl, fun K hK => ?_⟩
                              have e45 : a.tmps[45]? = some (.bool (t261 == (wrap64 (65535 - x8_14)))) := by rw [ha]; exact putSel_on (e := (5, 45, .bool (t261 == (wrap64 (65535 - x8_14))))) 3 rfl rfl (hon 5 (by kernel_rfl)) rfl
                              replace ha := Aside0.mk ha
                              have HB := Aside0.mk Q_HB
                              have HO260 := Aside0.mk (Q_HO260 (hon 1 (by kernel_rfl)))
                              refine value_ (w1 := w') (v := .bool (t261 == (wrap64 (65535 - x8_14)))) (by rfl) rfl ?_ ?_
                              · go_simp
                                (try simp only [i64_w])
                                try rfl
                              refine hK.out _ _ ⟨v259, v263, v267, (by rw [ha.out]; exact putSel_upk 4 hb_ rfl rfl rfl), Q_HB, Q_HO260, fun h0_ => absurd ((hoff 13 (by kernel_rfl)).symm.trans h0_) (by decide), fun h0_ => absurd ((hoff 16 (by kernel_rfl)).symm.trans h0_) (by decide)⟩
                            refine steps_cons ?_ ?_
                            · rintro b a w' ⟨v259, v263, v267, ha, Q_HB, Q_HO260, Q_HO264, Q_HO268⟩ hb_ hon hoff
                              refine ⟨_, rfl, fun K hK => ?_⟩
                              have e0 : a.tmps[0]? = some (.string x0_2) := by rw [ha]; exact (putSel_off rfl).trans rfl
                              have e46 : a.tmps[46]? = some (.bool (t261 == (wrap64 (65535 - x8_14)))) := by rw [ha]; exact putSel_on (e := (6, 46, .bool (t261 == (wrap64 (65535 - x8_14))))) 4 rfl rfl (hon 6 (by kernel_rfl)) rfl
                              replace ha := Aside0.mk ha
                              have HB := Aside0.mk Q_HB
                              have HO260 := Aside0.mk (Q_HO260 (hon 1 (by kernel_rfl)))
                              refine value_ (w1 := w') (v := .string x0_2) (wanted_on rfl rfl rfl (e46.trans (by first | rfl | (simp [*]; done)))) rfl ?_ ?_
                              · go_simp
                                (try simp only [i64_w])
                                try rfl
                              refine hK.out _ _ ⟨v259, v263, v267, (by rw [ha.out]; exact putSel_upk 5 hb_ rfl rfl rfl), Q_HB, Q_HO260, fun h0_ => absurd ((hoff 13 (by kernel_rfl)).symm.trans h0_) (by decide), Q_HO268⟩
                            refine steps_cons ?_ ?_
                            · rintro b a w' ⟨v259, v263, v267, ha, Q_HB, Q_HO260, Q_HO264, Q_HO268⟩ hb_ hon hoff
                              refine ⟨_, rfl, fun K hK => ?_⟩
                              have e5 : a.tmps[5]? = some (.int .i64 x5_6) := by rw [ha]; exact (putSel_off rfl).trans rfl
                              have e46 : a.tmps[46]? = some (.bool (t261 == (wrap64 (65535 - x8_14)))) := by rw [ha]; exact putSel_on (e := (6, 46, .bool (t261 == (wrap64 (65535 - x8_14))))) 4 rfl rfl (hon 6 (by kernel_rfl)) rfl
                              replace ha := Aside0.mk ha
                              have HB := Aside0.mk Q_HB
                              have HO260 := Aside0.mk (Q_HO260 (hon 1 (by kernel_rfl)))
                              refine value_ (w1 := w') (v := .int .i64 x5_6) (wanted_on rfl rfl rfl (e46.trans (by first | rfl | (simp [*]; done)))) rfl ?_ ?_
                              · go_simp
                                (try simp only [i64_w])
                                try rfl
                              refine hK.out _ _ ⟨v259, v263, v267, (by rw [ha.out]; exact putSel_upk 6 hb_ rfl rfl rfl), Q_HB, Q_HO260, fun h0_ => absurd ((hoff 13 (by kernel_rfl)).symm.trans h0_) (by decide), Q_HO268⟩
                            refine steps_cons ?_ ?_
                            · rintro b a w' ⟨v259, v263, v267, ha, Q_HB, Q_HO260, Q_HO264, Q_HO268⟩ hb_ hon hoff
                              refine ⟨_, rfl, fun K hK => ?_⟩
                              have e47 : a.tmps[47]? = some (.string x0_2) := by rw [ha]; exact putSel_on (e := (7, 47, .string x0_2)) 5 rfl rfl (hon 7 (by kernel_rfl)) rfl
                              have e48 : a.tmps[48]? = some (.int .i64 x5_6) := by rw [ha]; exact putSel_on (e := (8, 48, .int .i64 x5_6)) 6 rfl rfl (hon 8 (by kernel_rfl)) rfl
                              have e46 : a.tmps[46]? = some (.bool (t261 == (wrap64 (65535 - x8_14)))) := by rw [ha]; exact putSel_on (e := (6, 46, .bool (t261 == (wrap64 (65535 - x8_14))))) 4 rfl rfl (hon 6 (by kernel_rfl)) rfl
                              replace ha := Aside0.mk ha
                              have HB := Aside0.mk Q_HB
                              have HO260 := Aside0.mk (Q_HO260 (hon 1 (by kernel_rfl)))
                              refine value_ (w1 := w') (v := .string (x0_2.extract 0 (x5_6 : Int).toNat)) (wanted_on rfl rfl rfl (e46.trans (by first | rfl | (simp [*]; done)))) rfl ?_ ?_
                              · go_simp
                                (try simp only [i64_w])
                                try rfl
                              refine hK.out _ _ ⟨v259, v263, v267, (by rw [ha.out]; exact putSel_upk 7 hb_ rfl rfl rfl), Q_HB, Q_HO260, fun h0_ => absurd ((hoff 13 (by kernel_rfl)).symm.trans h0_) (by decide), Q_HO268⟩
                            refine steps_cons ?_ ?_
                            · rintro b a w' ⟨v259, v263, v267, ha, Q_HB, Q_HO260, Q_HO264, Q_HO268⟩ hb_ hon hoff
                              refine ⟨_, rfl, fun K hK => ?_⟩
                              have e0 : a.tmps[0]? = some (.string x0_2) := by rw [ha]; exact (putSel_off rfl).trans rfl
                              have e46 : a.tmps[46]? = some (.bool (t261 == (wrap64 (65535 - x8_14)))) := by rw [ha]; exact putSel_on (e := (6, 46, .bool (t261 == (wrap64 (65535 - x8_14))))) 4 rfl rfl (hon 6 (by kernel_rfl)) rfl
                              replace ha := Aside0.mk ha
                              have HB := Aside0.mk Q_HB
                              have HO260 := Aside0.mk (Q_HO260 (hon 1 (by kernel_rfl)))
                              refine value_ (w1 := w') (v := .string x0_2) (wanted_on rfl rfl rfl (e46.trans (by first | rfl | (simp [*]; done)))) rfl ?_ ?_
                              · go_simp
                                (try simp only [i64_w])
                                try rfl
                              refine hK.out _ _ ⟨v259, v263, v267, (by rw [ha.out]; exact putSel_upk 8 hb_ rfl rfl rfl), Q_HB, Q_HO260, fun h0_ => absurd ((hoff 13 (by kernel_rfl)).symm.trans h0_) (by decide), Q_HO268⟩
                            refine steps_cons ?_ ?_
                            · rintro b a w' ⟨v259, v263, v267, ha, Q_HB, Q_HO260, Q_HO264, Q_HO268⟩ hb_ hon hoff
                              refine ⟨_, rfl, fun K hK => ?_⟩
                              have e5 : a.tmps[5]? = some (.int .i64 x5_6) := by rw [ha]; exact (putSel_off rfl).trans rfl
                              have e46 : a.tmps[46]? = some (.bool (t261 == (wrap64 (65535 - x8_14)))) := by rw [ha]; exact putSel_on (e := (6, 46, .bool (t261 == (wrap64 (65535 - x8_14))))) 4 rfl rfl (hon 6 (by kernel_rfl)) rfl
                              replace ha := Aside0.mk ha
                              have HB := Aside0.mk Q_HB
                              have HO260 := Aside0.mk (Q_HO260 (hon 1 (by kernel_rfl)))
                              refine value_ (w1 := w') (v := .int .i64 x5_6) (wanted_on rfl rfl rfl (e46.trans (by first | rfl | (simp [*]; done)))) rfl ?_ ?_
                              · go_simp
                                (try simp only [i64_w])
                                try rfl
                              refine hK.out _ _ ⟨v259, v263, v267, (by rw [ha.out]; exact putSel_upk 9 hb_ rfl rfl rfl), Q_HB, Q_HO260, fun h0_ => absurd ((hoff 13 (by kernel_rfl)).symm.trans h0_) (by decide), Q_HO268⟩
                            refine steps_cons ?_ ?_
                            · rintro b a w' ⟨v259, v263, v267, ha, Q_HB, Q_HO260, Q_HO264, Q_HO268⟩ hb_ hon hoff
                              refine ⟨_, rfl, fun K hK => ?_⟩
                              have e50 : a.tmps[50]? = some (.string x0_2) := by rw [ha]; exact putSel_on (e := (10, 50, .string x0_2)) 8 rfl rfl (hon 10 (by kernel_rfl)) rfl
                              have e51 : a.tmps[51]? = some (.int .i64 x5_6) := by rw [ha]; exact putSel_on (e := (11, 51, .int .i64 x5_6)) 9 rfl rfl (hon 11 (by kernel_rfl)) rfl
                              have e46 : a.tmps[46]? = some (.bool (t261 == (wrap64 (65535 - x8_14)))) := by rw [ha]; exact putSel_on (e := (6, 46, .bool (t261 == (wrap64 (65535 - x8_14))))) 4 rfl rfl (hon 6 (by kernel_rfl)) rfl
                              replace ha := Aside0.mk ha
                              have HB := Aside0.mk Q_HB
                              have HO260 := Aside0.mk (Q_HO260 (hon 1 (by kernel_rfl)))
                              refine value_ (w1 := w') (v := .string (x0_2.extract (x5_6 : Int).toNat x0_2.size)) (wanted_on rfl rfl rfl (e46.trans (by first | rfl | (simp [*]; done)))) rfl ?_ ?_
                              · go_simp
                                (try simp only [i64_w])
                                try rfl
                              refine hK.out _ _ ⟨v259, v263, v267, (by rw [ha.out]; exact putSel_upk 10 hb_ rfl rfl rfl), Q_HB, Q_HO260, fun h0_ => absurd ((hoff 13 (by kernel_rfl)).symm.trans h0_) (by decide), Q_HO268⟩
                            refine steps_cons ?_ ?_
                            · rintro b a w' ⟨v259, v263, v267, ha, Q_HB, Q_HO260, Q_HO264, Q_HO268⟩ hb_ hon hoff
                              refine ⟨_, rfl, fun K hK => ?_⟩
                              have e49 : a.tmps[49]? = some (.string (x0_2.extract 0 (x5_6 : Int).toNat)) := by rw [ha]; exact putSel_on (e := (9, 49, .string (x0_2.extract 0 (x5_6 : Int).toNat))) 7 rfl rfl (hon 9 (by kernel_rfl)) rfl
                              have e52 : a.tmps[52]? = some (.string (x0_2.extract (x5_6 : Int).toNat x0_2.size)) := by rw [ha]; exact putSel_on (e := (12, 52, .string (x0_2.extract (x5_6 : Int).toNat x0_2.size))) 10 rfl rfl (hon 12 (by kernel_rfl)) rfl
                              have e46 : a.tmps[46]? = some (.bool (t261 == (wrap64 (65535 - x8_14)))) := by rw [ha]; exact putSel_on (e := (6, 46, .bool (t261 == (wrap64 (65535 - x8_14))))) 4 rfl rfl (hon 6 (by kernel_rfl)) rfl
                              replace ha := Aside0.mk ha
                              have HB := Aside0.mk Q_HB
                              have HO260 := Aside0.mk (Q_HO260 (hon 1 (by kernel_rfl)))
                              refine Kd.R_lit_step Kd.string _ 9 ?hg (N := 53) ?hd (xs := ([x0_2.extract 0 (x5_6 : Int).toNat, x0_2.extract (x5_6 : Int).toNat x0_2.size] : List ByteArray)) (inner := [.string (x0_2.extract 0 (x5_6 : Int).toNat), .string (x0_2.extract (x5_6 : Int).toNat x0_2.size)]) (ok := fun _ => True) (okp := fun _ => True) ?hr ?hp (fun _ hk => hk) trivial (Below.refl _ _) (Nat.le_refl _) (by simp) ?_; (case hd => rfl); (case hg => first | exact wanted_on rfl rfl rfl (e46.trans (by first | rfl | (simp [*]; done))) | rfl); (case hr => first | (go_simp; done) | (go_simp; rfl)); (case hp => exact (Reps.one (show Kd.M Kd.string _ _ _ (x0_2.extract 0 (x5_6 : Int).toNat) [.string (x0_2.extract 0 (x5_6 : Int).toNat)] from rfl) (Reps.one (show Kd.M Kd.string _ _ _ (x0_2.extract (x5_6 : Int).toNat x0_2.size) [.string (x0_2.extract (x5_6 : Int).toNat x0_2.size)] from rfl) (Reps.none _ _))))
                              intro v263 w58 ho59 hb hg_ hnew_
                              clear hg_ hnew_
                              (first | rw [← Ny262.out] at ho59 | (simp only [Int.reduceToNat] at ho59; rw [← Ny262.out] at ho59))
                              have n0_ := Aside0.mk (Kd.R_elder' (by (with_reducible repeat (first | apply Kd.R_alloc | apply Kd.R_drewN | apply Kd.R_drew)); exact HO260.out) (Kd.R_base ho59) hb)
                              have n1_ := Aside0.mk (Kd.R_lower (Kd.R_new' ho59 (Kd.R_lt (by (with_reducible repeat (first | apply Kd.R_alloc | apply Kd.R_drewN | apply Kd.R_drew)); exact HO260.out))) (below_size (by repeat (first | (with_reducible first | exact HB.out | apply below_alloc | apply pw_below_drewN | apply below_drew1) | exact HB.out))))
                              have n2_ := Aside0.mk (below_step (by repeat (first | (with_reducible first | exact HB.out | apply below_alloc | apply pw_below_drewN | apply below_drew1) | exact HB.out)) hb)
                              have z_HO268 := fun (h0_ : b 16 = true) => (show Kd.R Kd.string 9 w58 w.heap.size (fun _ => True) v267 y266 from by first | exact (Kd.R_elder' (by (with_reducible repeat (first | apply Kd.R_alloc | apply Kd.R_drewN | apply Kd.R_drew)); exact (Q_HO268 h0_)) (Kd.R_base ho59) hb) | exact Kd.R_mono (Kd.R_elder' (by (with_reducible repeat (first | apply Kd.R_alloc | apply Kd.R_drewN | apply Kd.R_drew)); exact (Q_HO268 h0_)) (Kd.R_base ho59) hb) (fun _ h_ => by first | trivial | exact h_ | exact h_.1))
                              clear HO260
                              clear HB
                              have HO260 := n0_
                              have HO264 := n1_
                              have HB := n2_
                              clear n0_ n1_ n2_
                              clear hb ho59
                              refine hK.out _ _ ⟨v259, v263, v267, (by rw [ha.out]; exact putSel_upk 11 hb_ rfl rfl rfl), (by repeat (first | (with_reducible first | exact HB.out | apply below_alloc | apply pw_below_drewN | apply below_drew1) | exact HB.out)), fun _ => (by (with_reducible repeat (first | apply Kd.R_alloc | apply Kd.R_drewN | apply Kd.R_drew)); exact Kd.R_mono HO260.out (fun _ hk => by first | exact hk.2 | exact trivial | exact hk)), fun _ => (by (with_reducible repeat (first | apply Kd.R_alloc | apply Kd.R_drewN | apply Kd.R_drew)); exact Kd.R_mono HO264.out (fun _ hk => by first | exact hk.2 | exact trivial | exact hk)), z_HO268⟩
                            refine steps_cons ?_ ?_
                            · rintro b a w' ⟨v259, v263, v267, ha, Q_HB, Q_HO260, Q_HO264, Q_HO268⟩ hb_ hon hoff
                              refine ⟨_, rfl, fun K hK => ?_⟩
                              have e53 : a.tmps[53]? = some (v263) := by rw [ha]; exact putSel_on (e := (13, 53, v263)) 11 rfl rfl (hon 13 (by kernel_rfl)) rfl
                              have e46 : a.tmps[46]? = some (.bool (t261 == (wrap64 (65535 - x8_14)))) := by rw [ha]; exact putSel_on (e := (6, 46, .bool (t261 == (wrap64 (65535 - x8_14))))) 4 rfl rfl (hon 6 (by kernel_rfl)) rfl
                              replace ha := Aside0.mk ha
                              have HB := Aside0.mk Q_HB
                              have HO260 := Aside0.mk (Q_HO260 (hon 1 (by kernel_rfl)))
                              have HO264 := Aside0.mk (Q_HO264 (hon 13 (by kernel_rfl)))
                              obtain ⟨Ao60, co60, eo60⟩ := Kd.R_slice HO264.out
                              (first | subst eo60 | (injection eo60 with f1_ f2_ f3_; have f4_ := f1_.symm; have f5_ := f3_.symm; clear f1_ f2_ f3_; subst f4_; subst f5_))
                              refine goes_ Try.func12 (by kernel_rfl) rfl #[.slice Ao60 y262.length co60] (by first | exact wanted_on rfl rfl rfl (e46.trans (by first | rfl | (simp [*]; done))) | rfl) rfl rfl (by first | (simp only [List.map_toArray, List.map_cons, List.map_nil, Act.eval, Array.getD_eq_getD_getElem?, Option.getD_some, e53, e46]; done) | (simp only [List.map_toArray, List.map_cons, List.map_nil, Act.eval, Array.getD_eq_getD_getElem?, Option.getD_some, e53, e46]; rfl)) ?_
                              with_reducible refine (csum_Of.calls kj14 _ _ y262 t265 _ ?side1 ?side2 A33.out).mono ?_
                              (case side1 => repeat (first | exact (Kd.R_reads' HO264.out).2.2 | (with_reducible refine Kd.C_alloc ?_ _) | (with_reducible refine Kd.C_drewN ?_ _) | (with_reducible refine Kd.C_drew ?_)))
                              (case side2 => exact (Kd.R_reads' HO264.out).2.1)
                              rintro e w61 ⟨rfl, hb⟩
                              refine ⟨_, rfl, ?_⟩
                              have n0_ := Aside0.mk (Kd.R_below (by (with_reducible repeat (first | apply Kd.R_alloc | apply Kd.R_drewN | apply Kd.R_drew)); exact HO260.out) hb)
                              have n1_ := Aside0.mk (Kd.R_below (by (with_reducible repeat (first | apply Kd.R_alloc | apply Kd.R_drewN | apply Kd.R_drew)); exact HO264.out) hb)
                              have n2_ := Aside0.mk (below_step (by repeat (first | (with_reducible first | exact HB.out | apply below_alloc | apply pw_below_drewN | apply below_drew1) | exact HB.out)) hb)
                              have z_HO268 := fun (h0_ : b 16 = true) => (show Kd.R Kd.string 9 w61 w.heap.size (fun _ => True) v267 y266 from by first | exact (Kd.R_below (by (with_reducible repeat (first | apply Kd.R_alloc | apply Kd.R_drewN | apply Kd.R_drew)); exact (Q_HO268 h0_)) hb) | exact Kd.R_mono (Kd.R_below (by (with_reducible repeat (first | apply Kd.R_alloc | apply Kd.R_drewN | apply Kd.R_drew)); exact (Q_HO268 h0_)) hb) (fun _ h_ => by first | trivial | exact h_ | exact h_.1))
                              clear HO260
                              clear HO264
                              clear HB
                              have HO260 := n0_
                              have HO264 := n1_
                              have HB := n2_
                              clear n0_ n1_ n2_
                              (try clear hb)
                              (try clear hb2)
                              (try clear hk)
                              (try clear hi)
                              refine hK.out _ _ ⟨v259, .slice Ao60 y262.length co60, v267, (by rw [ha.out]; exact putSel_upk 12 hb_ rfl rfl rfl), (by repeat (first | (with_reducible first | exact HB.out | apply below_alloc | apply pw_below_drewN | apply below_drew1) | exact HB.out)), fun _ => (by (with_reducible repeat (first | apply Kd.R_alloc | apply Kd.R_drewN | apply Kd.R_drew)); exact HO260.out), fun _ => (by (with_reducible repeat (first | apply Kd.R_alloc | apply Kd.R_drewN | apply Kd.R_drew)); exact HO264.out), z_HO268⟩
                            refine steps_cons ?_ ?_
                            · rintro b a w' ⟨v259, v263, v267, ha, Q_HB, Q_HO260, Q_HO264, Q_HO268⟩ hb_ hon hoff
                              refine ⟨_, rfl, fun K hK => ?_⟩
                              have e0 : a.tmps[0]? = some (.string x0_2) := by rw [ha]; exact (putSel_off rfl).trans rfl
                              have e46 : a.tmps[46]? = some (.bool (t261 == (wrap64 (65535 - x8_14)))) := by rw [ha]; exact putSel_on (e := (6, 46, .bool (t261 == (wrap64 (65535 - x8_14))))) 4 rfl rfl (hon 6 (by kernel_rfl)) rfl
                              replace ha := Aside0.mk ha
                              have HB := Aside0.mk Q_HB
                              have HO260 := Aside0.mk (Q_HO260 (hon 1 (by kernel_rfl)))
                              refine value_ (w1 := w') (v := .string x0_2) (wanted_on rfl rfl rfl (e46.trans (by first | rfl | (simp [*]; done)))) rfl ?_ ?_
                              · go_simp
                                (try simp only [i64_w])
                                try rfl
                              refine hK.out _ _ ⟨v259, v263, v267, (by rw [ha.out]; exact putSel_upk 13 hb_ rfl rfl rfl), Q_HB, Q_HO260, Q_HO264, fun h0_ => absurd ((hoff 16 (by kernel_rfl)).symm.trans h0_) (by decide)⟩
                            refine steps_cons ?_ ?_
                            · rintro b a w' ⟨v259, v263, v267, ha, Q_HB, Q_HO260, Q_HO264, Q_HO268⟩ hb_ hon hoff
                              refine ⟨_, rfl, fun K hK => ?_⟩
                              have e55 : a.tmps[55]? = some (.string x0_2) := by rw [ha]; exact putSel_on (e := (15, 55, .string x0_2)) 13 rfl rfl (hon 15 (by kernel_rfl)) rfl
                              have e46 : a.tmps[46]? = some (.bool (t261 == (wrap64 (65535 - x8_14)))) := by rw [ha]; exact putSel_on (e := (6, 46, .bool (t261 == (wrap64 (65535 - x8_14))))) 4 rfl rfl (hon 6 (by kernel_rfl)) rfl
                              replace ha := Aside0.mk ha
                              have HB := Aside0.mk Q_HB
                              have HO260 := Aside0.mk (Q_HO260 (hon 1 (by kernel_rfl)))
                              refine Kd.R_lit_step Kd.string _ 9 ?hg (N := 56) ?hd (xs := ([x0_2] : List ByteArray)) (inner := [.string x0_2]) (ok := fun _ => True) (okp := fun _ => True) ?hr ?hp (fun _ hk => hk) trivial (Below.refl _ _) (Nat.le_refl _) (by simp) ?_; (case hd => rfl); (case hg => first | exact wanted_on rfl rfl rfl (e46.trans (by first | rfl | (simp [*]; done))) | rfl); (case hr => first | (go_simp; done) | (go_simp; rfl)); (case hp => exact (Reps.one (show Kd.M Kd.string _ _ _ x0_2 [.string x0_2] from rfl) (Reps.none _ _)))
                              intro v267 w58 ho59 hb hg_ hnew_
                              clear hg_ hnew_
                              (first | rw [← Ny266.out] at ho59 | (simp only [Int.reduceToNat] at ho59; rw [← Ny266.out] at ho59))
                              have n0_ := Aside0.mk (Kd.R_elder' (by (with_reducible repeat (first | apply Kd.R_alloc | apply Kd.R_drewN | apply Kd.R_drew)); exact HO260.out) (Kd.R_base ho59) hb)
                              have n1_ := Aside0.mk (Kd.R_lower (Kd.R_new' ho59 (Kd.R_lt (by (with_reducible repeat (first | apply Kd.R_alloc | apply Kd.R_drewN | apply Kd.R_drew)); exact HO260.out))) (below_size (by repeat (first | (with_reducible first | exact HB.out | apply below_alloc | apply pw_below_drewN | apply below_drew1) | exact HB.out))))
                              have n2_ := Aside0.mk (below_step (by repeat (first | (with_reducible first | exact HB.out | apply below_alloc | apply pw_below_drewN | apply below_drew1) | exact HB.out)) hb)
                              have z_HO264 := fun (h0_ : b 13 = true) => (show Kd.R Kd.string 9 w58 w.heap.size (fun _ => True) v263 y262 from by first | exact (Kd.R_elder' (by (with_reducible repeat (first | apply Kd.R_alloc | apply Kd.R_drewN | apply Kd.R_drew)); exact (Q_HO264 h0_)) (Kd.R_base ho59) hb) | exact Kd.R_mono (Kd.R_elder' (by (with_reducible repeat (first | apply Kd.R_alloc | apply Kd.R_drewN | apply Kd.R_drew)); exact (Q_HO264 h0_)) (Kd.R_base ho59) hb) (fun _ h_ => by first | trivial | exact h_ | exact h_.1))
                              clear HO260
                              clear HB
                              have HO260 := n0_
                              have HO268 := n1_
                              have HB := n2_
                              clear n0_ n1_ n2_
                              clear hb ho59
                              refine hK.out _ _ ⟨v259, v263, v267, (by rw [ha.out]; exact putSel_upk 14 hb_ rfl rfl rfl), (by repeat (first | (with_reducible first | exact HB.out | apply below_alloc | apply pw_below_drewN | apply below_drew1) | exact HB.out)), fun _ => (by (with_reducible repeat (first | apply Kd.R_alloc | apply Kd.R_drewN | apply Kd.R_drew)); exact Kd.R_mono HO260.out (fun _ hk => by first | exact hk.2 | exact trivial | exact hk)), z_HO264, fun _ => (by (with_reducible repeat (first | apply Kd.R_alloc | apply Kd.R_drewN | apply Kd.R_drew)); exact Kd.R_mono HO268.out (fun _ hk => by first | exact hk.2 | exact trivial | exact hk))⟩
                            refine steps_cons ?_ ?_
                            · rintro b a w' ⟨v259, v263, v267, ha, Q_HB, Q_HO260, Q_HO264, Q_HO268⟩ hb_ hon hoff
                              refine ⟨_, rfl, fun K hK => ?_⟩
                              have e56 : a.tmps[56]? = some (v267) := by rw [ha]; exact putSel_on (e := (16, 56, v267)) 14 rfl rfl (hon 16 (by kernel_rfl)) rfl
                              have e46 : a.tmps[46]? = some (.bool (t261 == (wrap64 (65535 - x8_14)))) := by rw [ha]; exact putSel_on (e := (6, 46, .bool (t261 == (wrap64 (65535 - x8_14))))) 4 rfl rfl (hon 6 (by kernel_rfl)) rfl
                              replace ha := Aside0.mk ha
                              have HB := Aside0.mk Q_HB
                              have HO260 := Aside0.mk (Q_HO260 (hon 1 (by kernel_rfl)))
                              have HO264 := Aside0.mk (Q_HO264 (hon 13 (by kernel_rfl)))
                              have HO268 := Aside0.mk (Q_HO268 (hon 16 (by kernel_rfl)))
                              obtain ⟨Ao64, co64, eo64⟩ := Kd.R_slice HO268.out
                              (first | subst eo64 | (injection eo64 with f1_ f2_ f3_; have f4_ := f1_.symm; have f5_ := f3_.symm; clear f1_ f2_ f3_; subst f4_; subst f5_))
                              refine goes_ Try.func12 (by kernel_rfl) rfl #[.slice Ao64 y266.length co64] (by first | exact wanted_on rfl rfl rfl (e46.trans (by first | rfl | (simp [*]; done))) | rfl) rfl rfl (by first | (simp only [List.map_toArray, List.map_cons, List.map_nil, Act.eval, Array.getD_eq_getD_getElem?, Option.getD_some, e56, e46]; done) | (simp only [List.map_toArray, List.map_cons, List.map_nil, Act.eval, Array.getD_eq_getD_getElem?, Option.getD_some, e56, e46]; rfl)) ?_
                              with_reducible refine (csum_Of.calls kj14 _ _ y266 t269 _ ?side1 ?side2 A34.out).mono ?_
                              (case side1 => repeat (first | exact (Kd.R_reads' HO268.out).2.2 | (with_reducible refine Kd.C_alloc ?_ _) | (with_reducible refine Kd.C_drewN ?_ _) | (with_reducible refine Kd.C_drew ?_)))
                              (case side2 => exact (Kd.R_reads' HO268.out).2.1)
                              rintro e w65 ⟨rfl, hb⟩
                              refine ⟨_, rfl, ?_⟩
                              have n0_ := Aside0.mk (Kd.R_below (by (with_reducible repeat (first | apply Kd.R_alloc | apply Kd.R_drewN | apply Kd.R_drew)); exact HO260.out) hb)
                              have n1_ := Aside0.mk (Kd.R_below (by (with_reducible repeat (first | apply Kd.R_alloc | apply Kd.R_drewN | apply Kd.R_drew)); exact HO264.out) hb)
                              have n2_ := Aside0.mk (Kd.R_below (by (with_reducible repeat (first | apply Kd.R_alloc | apply Kd.R_drewN | apply Kd.R_drew)); exact HO268.out) hb)
                              have n3_ := Aside0.mk (below_step (by repeat (first | (with_reducible first | exact HB.out | apply below_alloc | apply pw_below_drewN | apply below_drew1) | exact HB.out)) hb)
                              clear HO260
                              clear HO264
                              clear HO268
                              clear HB
                              have HO260 := n0_
                              have HO264 := n1_
                              have HO268 := n2_
                              have HB := n3_
                              clear n0_ n1_ n2_ n3_
                              (try clear hb)
                              (try clear hb2)
                              (try clear hk)
                              (try clear hi)
                              refine hK.out _ _ ⟨v259, v263, .slice Ao64 y266.length co64, (by rw [ha.out]; exact putSel_upk 15 hb_ rfl rfl rfl), (by repeat (first | (with_reducible first | exact HB.out | apply below_alloc | apply pw_below_drewN | apply below_drew1) | exact HB.out)), fun _ => (by (with_reducible repeat (first | apply Kd.R_alloc | apply Kd.R_drewN | apply Kd.R_drew)); exact HO260.out), fun _ => (by (with_reducible repeat (first | apply Kd.R_alloc | apply Kd.R_drewN | apply Kd.R_drew)); exact HO264.out), fun _ => (by (with_reducible repeat (first | apply Kd.R_alloc | apply Kd.R_drewN | apply Kd.R_drew)); exact HO268.out)⟩
                            refine steps_cons ?_ ?_
                            · rintro b a w' ⟨v259, v263, v267, ha, Q_HB, Q_HO260, Q_HO264, Q_HO268⟩ hb_ hon hoff
                              refine ⟨_, rfl, fun K hK => ?_⟩
                              have e54 : a.tmps[54]? = some (.int .i64 t265) := by rw [ha]; exact putSel_on (e := (14, 54, .int .i64 t265)) 12 rfl rfl (hon 14 (by kernel_rfl)) rfl
                              have e57 : a.tmps[57]? = some (.int .i64 t269) := by rw [ha]; exact putSel_on (e := (17, 57, .int .i64 t269)) 15 rfl rfl (hon 17 (by kernel_rfl)) rfl
                              have e46 : a.tmps[46]? = some (.bool (t261 == (wrap64 (65535 - x8_14)))) := by rw [ha]; exact putSel_on (e := (6, 46, .bool (t261 == (wrap64 (65535 - x8_14))))) 4 rfl rfl (hon 6 (by kernel_rfl)) rfl
                              replace ha := Aside0.mk ha
                              have HB := Aside0.mk Q_HB
                              have HO260 := Aside0.mk (Q_HO260 (hon 1 (by kernel_rfl)))
                              have HO264 := Aside0.mk (Q_HO264 (hon 13 (by kernel_rfl)))
                              have HO268 := Aside0.mk (Q_HO268 (hon 16 (by kernel_rfl)))
                              refine value_ (w1 := w') (v := .bool (t265 == t269)) (wanted_on rfl rfl rfl (e46.trans (by first | rfl | (simp [*]; done)))) rfl ?_ ?_
                              · go_simp
                                (try simp only [i64_w])
                                try rfl
                              refine hK.out _ _ ⟨v259, v263, v267, (by rw [ha.out]; exact putSel_upk 16 hb_ rfl rfl rfl), Q_HB, Q_HO260, Q_HO264, Q_HO268⟩
                            refine steps_cons ?_ ?_
                            · rintro b a w' ⟨v259, v263, v267, ha, Q_HB, Q_HO260, Q_HO264, Q_HO268⟩ hb_ hon hoff
                              refine ⟨_, rfl, fun K hK => ?_⟩
                              have e46 : a.tmps[46]? = some (.bool (t261 == (wrap64 (65535 - x8_14)))) := by rw [ha]; exact putSel_on (e := (6, 46, .bool (t261 == (wrap64 (65535 - x8_14))))) 4 rfl rfl (hon 6 (by kernel_rfl)) rfl
                              have e58 : a.tmps[58]? = some (.bool (t265 == t269)) := by rw [ha]; exact putSel_on (e := (18, 58, .bool (t265 == t269))) 16 rfl rfl (hon 18 (by kernel_rfl)) rfl
                              replace ha := Aside0.mk ha
                              have HB := Aside0.mk Q_HB
                              have HO260 := Aside0.mk (Q_HO260 (hon 1 (by kernel_rfl)))
                              have HO264 := Aside0.mk (Q_HO264 (hon 13 (by kernel_rfl)))
                              have HO268 := Aside0.mk (Q_HO268 (hon 16 (by kernel_rfl)))
                              refine value_ (w1 := w') (v := .bool (t265 == t269)) (by rfl) rfl ?_ ?_
                              · go_simp
                                (try simp only [i64_w])
                                try rfl
                              refine hK.out _ _ ⟨v259, v263, v267, (by rw [ha.out]; exact putSel_upk 17 hb_ rfl rfl rfl), Q_HB, Q_HO260, Q_HO264, Q_HO268⟩
                            refine steps_cons ?_ ?_
                            · rintro b a w' ⟨v259, v263, v267, ha, Q_HB, Q_HO260, Q_HO264, Q_HO268⟩ hb_ hon hoff
                              refine ⟨_, rfl, fun K hK => ?_⟩
                              have e59 : a.tmps[59]? = some (.bool (t265 == t269)) := by rw [ha]; exact putSel_on (e := (19, 59, .bool (t265 == t269))) 17 rfl rfl (hon 19 (by kernel_rfl)) rfl
                              replace ha := Aside0.mk ha
                              have HB := Aside0.mk Q_HB
                              have HO260 := Aside0.mk (Q_HO260 (hon 1 (by kernel_rfl)))
                              have HO264 := Aside0.mk (Q_HO264 (hon 13 (by kernel_rfl)))
                              have HO268 := Aside0.mk (Q_HO268 (hon 16 (by kernel_rfl)))
                              refine value_ (w1 := w') (v := .bool (t265 == t269)) (by rfl) rfl ?_ ?_
                              · go_simp
                                (try simp only [i64_w])
                                try rfl
                              refine hK.out _ _ ⟨v259, v263, v267, (by rw [ha.out]; exact putSel_upk 18 hb_ rfl rfl rfl), Q_HB, Q_HO260, Q_HO264, Q_HO268⟩
                            refine steps_cons ?_ ?_
                            · rintro b a w' ⟨v259, v263, v267, ha, Q_HB, Q_HO260, Q_HO264, Q_HO268⟩ hb_ hon hoff
                              refine ⟨_, rfl, fun K hK => ?_⟩
                              have e60 : a.tmps[60]? = some (.bool (t265 == t269)) := by rw [ha]; exact putSel_on (e := (20, 60, .bool (t265 == t269))) 18 rfl rfl (hon 20 (by kernel_rfl)) rfl
                              replace ha := Aside0.mk ha
                              have HB := Aside0.mk Q_HB
                              have HO260 := Aside0.mk (Q_HO260 (hon 1 (by kernel_rfl)))
                              have HO264 := Aside0.mk (Q_HO264 (hon 13 (by kernel_rfl)))
                              have HO268 := Aside0.mk (Q_HO268 (hon 16 (by kernel_rfl)))
                              refine off_ (wanted_off rfl rfl rfl (e60.trans (by first | rfl | (simp [*]; done)))) ?_
                              refine hK.out _ _ ⟨v259, v263, v267, (by rw [ha.out]; exact putSel_upk 19 hb_ rfl rfl rfl), Q_HB, Q_HO260, Q_HO264, Q_HO268⟩
                            refine steps_cons ?_ ?_
                            · rintro b a w' ⟨v259, v263, v267, ha, Q_HB, Q_HO260, Q_HO264, Q_HO268⟩ hb_ hon hoff
                              refine ⟨_, rfl, fun K hK => ?_⟩
                              have e60 : a.tmps[60]? = some (.bool (t265 == t269)) := by rw [ha]; exact putSel_on (e := (20, 60, .bool (t265 == t269))) 18 rfl rfl (hon 20 (by kernel_rfl)) rfl
                              have e61 : a.tmps[61]? = some (undef) := by rw [ha]; exact putSel_on (e := (21, 61, undef)) 19 rfl rfl (hon 21 (by kernel_rfl)) rfl
                              replace ha := Aside0.mk ha
                              have HB := Aside0.mk Q_HB
                              have HO260 := Aside0.mk (Q_HO260 (hon 1 (by kernel_rfl)))
                              have HO264 := Aside0.mk (Q_HO264 (hon 13 (by kernel_rfl)))
                              have HO268 := Aside0.mk (Q_HO268 (hon 16 (by kernel_rfl)))
                              refine value_ (w1 := w') (v := .bool false) (by rfl) rfl ?_ ?_
                              · go_simp
                                (try simp only [i64_w])
                                try rfl
                              refine hK.out _ _ ⟨v259, v263, v267, (by rw [ha.out]; exact putSel_upk 20 hb_ rfl rfl rfl), Q_HB, Q_HO260, Q_HO264, Q_HO268⟩
                            refine steps_cons ?_ ?_
                            · rintro b a w' ⟨v259, v263, v267, ha, Q_HB, Q_HO260, Q_HO264, Q_HO268⟩ hb_ hon hoff
                              refine ⟨_, rfl, fun K hK => ?_⟩
                              have e62 : a.tmps[62]? = some (.bool false) := by rw [ha]; exact putSel_on (e := (22, 62, .bool false)) 20 rfl rfl (hon 22 (by kernel_rfl)) rfl
                              replace ha := Aside0.mk ha
                              have HB := Aside0.mk Q_HB
                              have HO260 := Aside0.mk (Q_HO260 (hon 1 (by kernel_rfl)))
                              have HO264 := Aside0.mk (Q_HO264 (hon 13 (by kernel_rfl)))
                              have HO268 := Aside0.mk (Q_HO268 (hon 16 (by kernel_rfl)))
                              refine value_ (w1 := w') (v := .bool false) (by rfl) rfl ?_ ?_
                              · go_simp
                                (try simp only [i64_w])
                                try rfl
                              refine hK.out _ _ ⟨v259, v263, v267, (by rw [ha.out]; exact putSel_upk 21 hb_ rfl rfl rfl), Q_HB, Q_HO260, Q_HO264, Q_HO268⟩
                            exact steps_nil
                          rintro b a w65 hall ⟨v259, v263, v267, ha, Q_HB, Q_HO260, Q_HO264, Q_HO268⟩
                          clear HB
                          have hb1_ := hall 1 (by kernel_rfl)
                          have hb2_ := hall 2 (by kernel_rfl)
                          have hb4_ := hall 4 (by kernel_rfl)
                          have hb5_ := hall 5 (by kernel_rfl)
                          have hb6_ := hall 6 (by kernel_rfl)
                          have hb7_ := hall 7 (by kernel_rfl)
                          have hb8_ := hall 8 (by kernel_rfl)
                          have hb9_ := hall 9 (by kernel_rfl)
                          have hb10_ := hall 10 (by kernel_rfl)
                          have hb11_ := hall 11 (by kernel_rfl)
                          have hb12_ := hall 12 (by kernel_rfl)
                          have hb13_ := hall 13 (by kernel_rfl)
                          have hb14_ := hall 14 (by kernel_rfl)
                          have hb15_ := hall 15 (by kernel_rfl)
                          have hb16_ := hall 16 (by kernel_rfl)
                          have hb17_ := hall 17 (by kernel_rfl)
                          have hb18_ := hall 18 (by kernel_rfl)
                          have hb19_ := hall 19 (by kernel_rfl)
                          have hb20_ := hall 20 (by kernel_rfl)
                          have hb21_ := hall 21 (by kernel_rfl)
                          have hb22_ := hall 22 (by kernel_rfl)
                          have hb23_ := hall 23 (by kernel_rfl)
                          subst ha
                          simp only [putSel, hb1_, hb2_, hb4_, hb5_, hb6_, hb7_, hb8_, hb9_, hb10_, hb11_, hb12_, hb13_, hb14_, hb15_, hb16_, hb17_, hb18_, hb19_, hb20_, hb21_, hb22_, hb23_, if_true, Act.put, List.setIfInBounds_toArray, List.set_cons_zero, List.set_cons_succ]
                          have HB := Aside0.mk Q_HB
                          clear Q_HB
                          have HO260 := Aside0.mk (Q_HO260 hb1_)
                          clear Q_HO260
                          have HO264 := Aside0.mk (Q_HO264 hb13_)
                          clear Q_HO264
                          have HO268 := Aside0.mk (Q_HO268 hb16_)
                          clear Q_HO268
                          clear hall hb1_ hb2_ hb4_ hb5_ hb6_ hb7_ hb8_ hb9_ hb10_ hb11_ hb12_ hb13_ hb14_ hb15_ hb16_ hb17_ hb18_ hb19_ hb20_ hb21_ hb22_ hb23_
                          try go_wp2
                          go_ret
                          exact ⟨by first | rfl | (simp [errW_none, errW_some] <;> rfl) | (simp [*, errW_none, errW_some] <;> rfl), by repeat (first | (with_reducible first | exact HB.out | apply below_alloc | apply pw_below_drewN | apply below_drew1) | exact HB.out)⟩
                      · rw [if_neg c30] at H
                        exact absurd H (by simp)
                    · rw [if_neg c29] at H
                      exact absurd H (by simp)
                  · rw [if_neg c28] at H
                    have c28b0 : (t261 == (wrap64 (65535 - x8_14))) = false := beq_eq_false_iff_ne.mpr c28
                    have c28b1 : (t261 != (wrap64 (65535 - x8_14))) = true := bne_iff_ne.mpr c28
                    obtain rfl := Option.some.inj H
                    try go_wp2
                    have n0_ := Aside0.mk (below_drew1 HB.out)
                    clear HB
                    have HB := n0_
                    clear n0_
                    refine start_ (n := 24) (S := fun w' => True) (ds := []) #[false, false, false, false, false, false, false, false, false, false, false, false, false, false, false, false, false, false, false, false, false, false, false, false] (by kernel_rfl) rfl rfl trivial (fun hHeld => ?_); refine with_tabW gangwaylaw03_CsumHalves.tab7 gangwaylaw03_CsumHalves.bits7 (fun HT_ HW_ => ?_)
                    generalize wc.drew = w66 at HB hHeld ⊢
                    refine pure_ (i := 0) (N := some 40) (v := ?_) (a' := ?_) #[true, false, false, false, false, false, false, false, false, false, false, false, false, false, false, false, false, false, false, false, false, false, false, false] rfl rfl (any_of HT_.out (by kernel_rfl)) (fun _ _ _ h => h) (Or.inl ⟨by rfl, ?_⟩) ?_ ?_
                    rotate_left
                    · intro w'
                      go_simp
                      first | with_reducible rfl | (rw [if_neg (by (try simp only [decide_eq_true_eq, ByteArray.size_append, ByteArray.size_extract, eq_iff_iff, iff_true, iff_false, Nat.not_lt] at *); omega)]; try with_reducible rfl)
                    rotate_left
                    · simp only [Act.put, List.setIfInBounds_toArray, List.set_cons_zero, List.set_cons_succ, i64_w, i32_w]
                      rfl
                    refine pure_ (i := 3) (N := some 43) (v := ?_) (a' := ?_) #[true, false, false, true, false, false, false, false, false, false, false, false, false, false, false, false, false, false, false, false, false, false, false, false] rfl rfl (any_of HT_.out (by kernel_rfl)) (fun _ _ _ h => h) (Or.inl ⟨by rfl, ?_⟩) ?_ ?_
                    rotate_left
                    · intro w'
                      go_simp
                      first | with_reducible rfl | (rw [if_neg (by (try simp only [decide_eq_true_eq, ByteArray.size_append, ByteArray.size_extract, eq_iff_iff, iff_true, iff_false, Nat.not_lt] at *); omega)]; try with_reducible rfl)
                    rotate_left
                    · simp only [Act.put, List.setIfInBounds_toArray, List.set_cons_zero, List.set_cons_succ, i64_w, i32_w]
                      rfl
                    refine pure_ (i := 4) (N := some 44) (v := ?_) (a' := ?_) #[true, false, false, true, true, false, false, false, false, false, false, false, false, false, false, false, false, false, false, false, false, false, false, false] rfl rfl (any_of HT_.out (by kernel_rfl)) (fun _ _ _ h => h) (Or.inl ⟨by rfl, ?_⟩) ?_ ?_
                    rotate_left
                    · intro w'
                      go_simp
                      first | with_reducible rfl | (rw [if_neg (by (try simp only [decide_eq_true_eq, ByteArray.size_append, ByteArray.size_extract, eq_iff_iff, iff_true, iff_false, Nat.not_lt] at *); omega)]; try with_reducible rfl)
                    rotate_left
                    · simp only [Act.put, List.setIfInBounds_toArray, List.set_cons_zero, List.set_cons_succ, i64_w, i32_w]
                      rfl
                    refine one_ (i := 1) (N := some 41) #[true, true, false, true, true, false, false, false, false, false, false, false, false, false, false, false, false, false, false, false, false, false, false, false] rfl rfl (one_of HT_.out (by kernel_rfl)) (by decide) (fun K hK => ?_)
                    refine Kd.R_lit_step Kd.string _ 9 ?hg (N := 41) ?hd (xs := ([x0_2] : List ByteArray)) (inner := [.string x0_2]) (ok := fun _ => True) (okp := fun _ => True) ?hr ?hp (fun _ hk => hk) trivial (Below.refl _ _) (Nat.le_refl _) (by simp) ?_; (case hd => rfl); (case hg => first | exact wanted_on rfl rfl rfl (e62.trans (by first | rfl | (simp [*]; done))) | rfl); (case hr => first | (go_simp; done) | (go_simp; rfl)); (case hp => exact (Reps.one (show Kd.M Kd.string _ _ _ x0_2 [.string x0_2] from rfl) (Reps.none _ _)))
                    intro v259 w67 ho68 hb hg_ hnew_
                    clear hg_ hnew_
                    (first | rw [← Ny258.out] at ho68 | (simp only [Int.reduceToNat] at ho68; rw [← Ny258.out] at ho68))
                    have n0_ := Aside0.mk (Kd.R_lower ho68 (below_size (by repeat (first | (with_reducible first | exact HB.out | apply below_alloc | apply pw_below_drewN | apply below_drew1) | exact HB.out))))
                    have n1_ := Aside0.mk (below_step (by repeat (first | (with_reducible first | exact HB.out | apply below_alloc | apply pw_below_drewN | apply below_drew1) | exact HB.out)) hb)
                    clear HB
                    have HO260 := n0_
                    have HB := n1_
                    clear n0_ n1_
                    clear hb ho68
                    obtain ⟨Ao69, co69, eo69⟩ := Kd.R_slice HO260.out
                    (first | subst eo69 | (injection eo69 with f1_ f2_ f3_; have f4_ := f1_.symm; have f5_ := f3_.symm; clear f1_ f2_ f3_; subst f4_; subst f5_))
                    refine hK.out _ _ trivial (fun hHeld => ?_)
                    clear hK K
                    refine norm_ (a' := ?_) ?_ ?_
                    rotate_left
                    · show Act.put _ (some 41) _ = _
                      simp only [Act.put, List.setIfInBounds_toArray, List.set_cons_zero, List.set_cons_succ, i64_w, i32_w]
                      rfl
                    refine one_ (i := 2) (N := some 42) #[true, true, true, true, true, false, false, false, false, false, false, false, false, false, false, false, false, false, false, false, false, false, false, false] rfl rfl (one_of HT_.out (by kernel_rfl)) (by decide) (fun K hK => ?_)
                    refine goes_ Try.func12 (by kernel_rfl) rfl #[.slice Ao69 y258.length co69] (by rfl) rfl rfl (by (try simp only [List.map_toArray, List.map_cons, List.map_nil]); first | done | rfl | (simp only [List.length_drop, List.length_take]; rfl)) ?_
                    with_reducible refine (csum_Of.calls kj14 _ _ y258 t261 _ ?side1 ?side2 A27.out).mono ?_
                    (case side1 => repeat (first | exact (Kd.R_reads' HO260.out).2.2 | (with_reducible refine Kd.C_alloc ?_ _) | (with_reducible refine Kd.C_drewN ?_ _) | (with_reducible refine Kd.C_drew ?_)))
                    (case side2 => exact (Kd.R_reads' HO260.out).2.1)
                    rintro e w70 ⟨rfl, hb⟩
                    refine ⟨_, rfl, ?_⟩
                    have n0_ := Aside0.mk (Kd.R_below (by (with_reducible repeat (first | apply Kd.R_alloc | apply Kd.R_drewN | apply Kd.R_drew)); exact HO260.out) hb)
                    have n1_ := Aside0.mk (below_step (by repeat (first | (with_reducible first | exact HB.out | apply below_alloc | apply pw_below_drewN | apply below_drew1) | exact HB.out)) hb)
                    clear HO260
                    clear HB
                    have HO260 := n0_
                    have HB := n1_
                    clear n0_ n1_
                    (try clear hb)
                    (try clear hb2)
                    (try clear hk)
                    (try clear hi)
                    refine hK.out _ _ trivial (fun hHeld => ?_)
                    clear hK K
                    refine norm_ (a' := ?_) ?_ ?_
                    rotate_left
                    · show Act.put _ (some 42) _ = _
                      simp only [Act.put, List.setIfInBounds_toArray, List.set_cons_zero, List.set_cons_succ, i64_w, i32_w]
                      rfl
                    refine pure_ (i := 5) (N := some 45) (v := ?_) (a' := ?_) #[true, true, true, true, true, true, false, false, false, false, false, false, false, false, false, false, false, false, false, false, false, false, false, false] rfl rfl (any_of HT_.out (by kernel_rfl)) (fun _ _ _ h => h) (Or.inl ⟨by rfl, ?_⟩) ?_ ?_
                    rotate_left
                    · intro w'
                      go_simp
                      first | with_reducible rfl | (rw [if_neg (by (try simp only [decide_eq_true_eq, ByteArray.size_append, ByteArray.size_extract, eq_iff_iff, iff_true, iff_false, Nat.not_lt] at *); omega)]; try with_reducible rfl)
                    rotate_left
                    · simp only [Act.put, List.setIfInBounds_toArray, List.set_cons_zero, List.set_cons_succ, i64_w, i32_w]
                      rfl
                    refine pure_ (i := 6) (N := some 46) (v := ?_) (a' := ?_) #[true, true, true, true, true, true, true, false, false, false, false, false, false, false, false, false, false, false, false, false, false, false, false, false] rfl rfl (any_of HT_.out (by kernel_rfl)) (fun _ _ _ h => h) (Or.inl ⟨by rfl, ?_⟩) ?_ ?_
                    rotate_left
                    · intro w'
                      go_simp
                      first | with_reducible rfl | (rw [if_neg (by (try simp only [decide_eq_true_eq, ByteArray.size_append, ByteArray.size_extract, eq_iff_iff, iff_true, iff_false, Nat.not_lt] at *); omega)]; try with_reducible rfl)
                    rotate_left
                    · simp only [Act.put, List.setIfInBounds_toArray, List.set_cons_zero, List.set_cons_succ, i64_w, i32_w]
                      rfl
                    refine pure_ (i := 7) (N := some 47) (v := undef) (a' := ?_) #[true, true, true, true, true, true, true, true, false, false, false, false, false, false, false, false, false, false, false, false, false, false, false, false] rfl rfl (any_of HT_.out (by kernel_rfl)) (fun _ _ _ h => h) (Or.inr ⟨by rfl, rfl⟩) ?_ ?_
                    rotate_left
                    · simp only [Act.put, List.setIfInBounds_toArray, List.set_cons_zero, List.set_cons_succ, i64_w, i32_w]
                      rfl
                    refine pure_ (i := 8) (N := some 48) (v := undef) (a' := ?_) #[true, true, true, true, true, true, true, true, true, false, false, false, false, false, false, false, false, false, false, false, false, false, false, false] rfl rfl (any_of HT_.out (by kernel_rfl)) (fun _ _ _ h => h) (Or.inr ⟨by rfl, rfl⟩) ?_ ?_
                    rotate_left
                    · simp only [Act.put, List.setIfInBounds_toArray, List.set_cons_zero, List.set_cons_succ, i64_w, i32_w]
                      rfl
                    refine pure_ (i := 9) (N := some 49) (v := undef) (a' := ?_) #[true, true, true, true, true, true, true, true, true, true, false, false, false, false, false, false, false, false, false, false, false, false, false, false] rfl rfl (any_of HT_.out (by kernel_rfl)) (fun _ _ _ h => h) (Or.inr ⟨by rfl, rfl⟩) ?_ ?_
                    rotate_left
                    · simp only [Act.put, List.setIfInBounds_toArray, List.set_cons_zero, List.set_cons_succ, i64_w, i32_w]
                      rfl
                    refine pure_ (i := 10) (N := some 50) (v := undef) (a' := ?_) #[true, true, true, true, true, true, true, true, true, true, true, false, false, false, false, false, false, false, false, false, false, false, false, false] rfl rfl (any_of HT_.out (by kernel_rfl)) (fun _ _ _ h => h) (Or.inr ⟨by rfl, rfl⟩) ?_ ?_
                    rotate_left
                    · simp only [Act.put, List.setIfInBounds_toArray, List.set_cons_zero, List.set_cons_succ, i64_w, i32_w]
                      rfl
                    refine pure_ (i := 11) (N := some 51) (v := undef) (a' := ?_) #[true, true, true, true, true, true, true, true, true, true, true, true, false, false, false, false, false, false, false, false, false, false, false, false] rfl rfl (any_of HT_.out (by kernel_rfl)) (fun _ _ _ h => h) (Or.inr ⟨by rfl, rfl⟩) ?_ ?_
                    rotate_left
                    · simp only [Act.put, List.setIfInBounds_toArray, List.set_cons_zero, List.set_cons_succ, i64_w, i32_w]
                      rfl
                    refine pure_ (i := 12) (N := some 52) (v := undef) (a' := ?_) #[true, true, true, true, true, true, true, true, true, true, true, true, true, false, false, false, false, false, false, false, false, false, false, false] rfl rfl (any_of HT_.out (by kernel_rfl)) (fun _ _ _ h => h) (Or.inr ⟨by rfl, rfl⟩) ?_ ?_
                    rotate_left
                    · simp only [Act.put, List.setIfInBounds_toArray, List.set_cons_zero, List.set_cons_succ, i64_w, i32_w]
                      rfl
                    refine pure_ (i := 13) (N := some 53) (v := undef) (a' := ?_) #[true, true, true, true, true, true, true, true, true, true, true, true, true, true, false, false, false, false, false, false, false, false, false, false] rfl rfl (any_of HT_.out (by kernel_rfl)) (fun _ _ _ h => h) (Or.inr ⟨by rfl, rfl⟩) ?_ ?_
                    rotate_left
                    · simp only [Act.put, List.setIfInBounds_toArray, List.set_cons_zero, List.set_cons_succ, i64_w, i32_w]
                      rfl
                    refine pure_ (i := 14) (N := some 54) (v := undef) (a' := ?_) #[true, true, true, true, true, true, true, true, true, true, true, true, true, true, true, false, false, false, false, false, false, false, false, false] rfl rfl (any_of HT_.out (by kernel_rfl)) (fun _ _ _ h => h) (Or.inr ⟨by rfl, rfl⟩) ?_ ?_
                    rotate_left
                    · simp only [Act.put, List.setIfInBounds_toArray, List.set_cons_zero, List.set_cons_succ, i64_w, i32_w]
                      rfl
                    refine pure_ (i := 15) (N := some 55) (v := undef) (a' := ?_) #[true, true, true, true, true, true, true, true, true, true, true, true, true, true, true, true, false, false, false, false, false, false, false, false] rfl rfl (any_of HT_.out (by kernel_rfl)) (fun _ _ _ h => h) (Or.inr ⟨by rfl, rfl⟩) ?_ ?_
                    rotate_left
                    · simp only [Act.put, List.setIfInBounds_toArray, List.set_cons_zero, List.set_cons_succ, i64_w, i32_w]
                      rfl
                    refine pure_ (i := 16) (N := some 56) (v := undef) (a' := ?_) #[true, true, true, true, true, true, true, true, true, true, true, true, true, true, true, true, true, false, false, false, false, false, false, false] rfl rfl (any_of HT_.out (by kernel_rfl)) (fun _ _ _ h => h) (Or.inr ⟨by rfl, rfl⟩) ?_ ?_
                    rotate_left
                    · simp only [Act.put, List.setIfInBounds_toArray, List.set_cons_zero, List.set_cons_succ, i64_w, i32_w]
                      rfl
                    refine pure_ (i := 17) (N := some 57) (v := undef) (a' := ?_) #[true, true, true, true, true, true, true, true, true, true, true, true, true, true, true, true, true, true, false, false, false, false, false, false] rfl rfl (any_of HT_.out (by kernel_rfl)) (fun _ _ _ h => h) (Or.inr ⟨by rfl, rfl⟩) ?_ ?_
                    rotate_left
                    · simp only [Act.put, List.setIfInBounds_toArray, List.set_cons_zero, List.set_cons_succ, i64_w, i32_w]
                      rfl
                    refine pure_ (i := 18) (N := some 58) (v := undef) (a' := ?_) #[true, true, true, true, true, true, true, true, true, true, true, true, true, true, true, true, true, true, true, false, false, false, false, false] rfl rfl (any_of HT_.out (by kernel_rfl)) (fun _ _ _ h => h) (Or.inr ⟨by rfl, rfl⟩) ?_ ?_
                    rotate_left
                    · simp only [Act.put, List.setIfInBounds_toArray, List.set_cons_zero, List.set_cons_succ, i64_w, i32_w]
                      rfl
                    refine pure_ (i := 19) (N := some 59) (v := ?_) (a' := ?_) #[true, true, true, true, true, true, true, true, true, true, true, true, true, true, true, true, true, true, true, true, false, false, false, false] rfl rfl (any_of HT_.out (by kernel_rfl)) (fun _ _ _ h => h) (Or.inl ⟨by rfl, ?_⟩) ?_ ?_
                    rotate_left
                    · intro w'
                      go_simp
                      first | with_reducible rfl | (rw [if_neg (by (try simp only [decide_eq_true_eq, ByteArray.size_append, ByteArray.size_extract, eq_iff_iff, iff_true, iff_false, Nat.not_lt] at *); omega)]; try with_reducible rfl)
                    rotate_left
                    · simp only [Act.put, List.setIfInBounds_toArray, List.set_cons_zero, List.set_cons_succ, i64_w, i32_w]
                      rfl
                    refine pure_ (i := 20) (N := some 60) (v := ?_) (a' := ?_) #[true, true, true, true, true, true, true, true, true, true, true, true, true, true, true, true, true, true, true, true, true, false, false, false] rfl rfl (any_of HT_.out (by kernel_rfl)) (fun _ _ _ h => h) (Or.inl ⟨by rfl, ?_⟩) ?_ ?_
                    rotate_left
                    · intro w'
                      go_simp
                      first | with_reducible rfl | (rw [if_neg (by (try simp only [decide_eq_true_eq, ByteArray.size_append, ByteArray.size_extract, eq_iff_iff, iff_true, iff_false, Nat.not_lt] at *); omega)]; try with_reducible rfl)
                    rotate_left
                    · simp only [Act.put, List.setIfInBounds_toArray, List.set_cons_zero, List.set_cons_succ, i64_w, i32_w]
                      rfl
                    refine pure_ (i := 21) (N := some 61) (v := undef) (a' := ?_) #[true, true, true, true, true, true, true, true, true, true, true, true, true, true, true, true, true, true, true, true, true, true, false, false] rfl rfl (any_of HT_.out (by kernel_rfl)) (fun _ _ _ h => h) (Or.inr ⟨by rfl, rfl⟩) ?_ ?_
                    rotate_left
                    · simp only [Act.put, List.setIfInBounds_toArray, List.set_cons_zero, List.set_cons_succ, i64_w, i32_w]
                      rfl
                    refine pure_ (i := 22) (N := some 62) (v := ?_) (a' := ?_) #[true, true, true, true, true, true, true, true, true, true, true, true, true, true, true, true, true, true, true, true, true, true, true, false] rfl rfl (any_of HT_.out (by kernel_rfl)) (fun _ _ _ h => h) (Or.inl ⟨by rfl, ?_⟩) ?_ ?_
                    rotate_left
                    · intro w'
                      go_simp
                      first | with_reducible rfl | (rw [if_neg (by (try simp only [decide_eq_true_eq, ByteArray.size_append, ByteArray.size_extract, eq_iff_iff, iff_true, iff_false, Nat.not_lt] at *); omega)]; try with_reducible rfl)
                    rotate_left
                    · simp only [Act.put, List.setIfInBounds_toArray, List.set_cons_zero, List.set_cons_succ, i64_w, i32_w]
                      rfl
                    refine pure_ (i := 23) (N := some 4) (v := ?_) (a' := ?_) #[true, true, true, true, true, true, true, true, true, true, true, true, true, true, true, true, true, true, true, true, true, true, true, true] rfl rfl (any_of HT_.out (by kernel_rfl)) (fun _ _ _ h => h) (Or.inl ⟨by rfl, ?_⟩) ?_ ?_
                    rotate_left
                    · intro w'
                      go_simp
                      first | with_reducible rfl | (rw [if_neg (by (try simp only [decide_eq_true_eq, ByteArray.size_append, ByteArray.size_extract, eq_iff_iff, iff_true, iff_false, Nat.not_lt] at *); omega)]; try with_reducible rfl)
                    rotate_left
                    · simp only [Act.put, List.setIfInBounds_toArray, List.set_cons_zero, List.set_cons_succ, i64_w, i32_w]
                      rfl
                    refine done_ (done_of HT_.out (by kernel_rfl)) ?_
                    try go_wp2
                    go_ret
                    exact ⟨by first | rfl | (simp [errW_none, errW_some] <;> rfl) | (simp [*, errW_none, errW_some] <;> rfl), by repeat (first | (with_reducible first | exact HB.out | apply below_alloc | apply pw_below_drewN | apply below_drew1) | exact HB.out)⟩
            · rw [if_neg c10] at H
              exact absurd H (by simp)
          · rw [if_neg c9] at H
            exact absurd H (by simp)

/-- THE ONE PURE STATEMENT of gangwaylaw03_CsumHalves: yours. -/
def gangwaylaw03_CsumHalves.Pure : Prop := ∀ (a0 : ByteArray) (a1 : Int), a0.size ≤ 140737488351232 → (Lit.int .i64 a1).wf = true → ∃ k, gangwaylaw03_CsumHalves.f k a0 a1 = some true
theorem gangwaylaw03_CsumHalves.walk (P : gangwaylaw03_CsumHalves.Pure) (a0 : ByteArray) (a1 : Int) (w : World) (w0 : a0.size ≤ 140737488351232) (w1 : (Lit.int .i64 a1).wf = true) :
    Calls Try.prog 8 #[.string a0, .int .i64 a1] w fun e w' => e = .returned (.bool true) ∧ Below w.heap.size w w' := by
  obtain ⟨k, h⟩ := P a0 a1 w0 w1
  refine (gangwaylaw03_CsumHalves.calls k a0 a1 true w h).mono ?_
  rintro e w' ⟨rfl, hd⟩
  exact ⟨rfl, hd⟩

end Go.Proofs.Ytgfgebngmjchbaa.P
