-- Written by wip/hprint.py (this session's program) through the kit's print program; hand contracts are marked 'by hand'.
import Derived.Test.YtgfgebngmjchbaaPx0
import Derived.Test.YtgfgebngmjchbaaPx4
import Derived.Test.YtgfgebngmjchbaaPx6
import Derived.Test.YtgfgebngmjchbaaPx9
namespace Go.Proofs.Ytgfgebngmjchbaa.P
open Go.RowKit Go.Proofs.YtgfgebngmjchbaaW.PrintWords Go.Proofs.YtgfgebngmjchbaaW.PrintLast Go.Proofs.YtgfgebngmjchbaaW.PrintMore
attribute [local go_sem] max2_int min2_int max_two min_two max_three min_three max_four min_four   -- for this text's walks alone
set_option linter.unusedVariables false
set_option linter.unusedSimpArgs false

/-! ### gangwaylaw03_CsumPatches: function 6 -/
mutual
def gangwaylaw03_CsumPatches.j0 : Nat → ByteArray → Int → Int → Option (Bool)
  | 0, _, _, _ => none
  | k + 1, x0, x1, x2 => if (x0.size : Int) < 2 then ((gangwaylaw03_fixed.f k).bind fun t210 => (some t210)) else (if (wrap64 ((x0.size : Int) / 2)) = 0 then (none) else (gangwaylaw03_CsumPatches.j1 k x0 x2 (wrap64 ((Int.tmod (Go.bits .and .i64 x1 65535) (wrap64 ((x0.size : Int) / 2))) * 2))))
def gangwaylaw03_CsumPatches.j1 : Nat → ByteArray → Int → Int → Option (Bool)
  | 0, _, _, _ => none
  | k + 1, x0, x2, x7 => if 0 ≤ x7 then (if x7 < (x0.size : Int) then (if 0 ≤ (wrap64 (x7 + 1)) then (if (wrap64 (x7 + 1)) < (x0.size : Int) then (if x7 ≤ (x0.size : Int) then ((gangwayref01_Bytes.f k (IntKind.u64.wrap (Go.bits .and .i64 x2 65535)) 2).bind fun t211 => (if (x0.extract 0 (x7 : Int).toNat).size + t211.size ≤ 9223372036854775807 then (if 0 ≤ (wrap64 (x7 + 2)) then (if (wrap64 (x7 + 2)) ≤ (x0.size : Int) then (if ((x0.extract 0 (x7 : Int).toNat) ++ t211).size + (x0.extract ((wrap64 (x7 + 2)) : Int).toNat x0.size).size ≤ 9223372036854775807 then ((csum_Of.f k (([x0] : List ByteArray))).bind fun t215 => ((csum_Patch.f k t215 (wrap64 ((wrap64 ((wrap64 (bt x0 x7)) * 256)) + (wrap64 (bt x0 (wrap64 (x7 + 1)))))) (Go.bits .and .i64 x2 65535)).bind fun t216 => ((csum_Of.f k (([((x0.extract 0 (x7 : Int).toNat) ++ t211) ++ (x0.extract ((wrap64 (x7 + 2)) : Int).toNat x0.size)] : List ByteArray))).bind fun t220 => (gangwaylaw03_CsumPatches.j2 k t216 t220)))) else (none)) else (none)) else (none)) else (none))) else (none)) else (none)) else (none)) else (none)) else (none)
def gangwaylaw03_CsumPatches.j2 : Nat → Int → Int → Option (Bool)
  | 0, _, _ => none
  | k + 1, x10, x11 => if x10 = x11 then ((gangwaylaw03_fixed.f k).bind fun t221 => (some t221)) else (if x10 = 0 then (if x11 = 65535 then ((gangwaylaw03_fixed.f k).bind fun t222 => (some t222)) else (if x10 = 65535 then (if x11 = 0 then ((gangwaylaw03_fixed.f k).bind fun t223 => (some t223)) else (some false)) else (some false))) else (if x10 = 65535 then (if x11 = 0 then ((gangwaylaw03_fixed.f k).bind fun t224 => (some t224)) else (some false)) else (some false)))
end
def gangwaylaw03_CsumPatches.f (k : Nat) (a0 : ByteArray) (a1 : Int) (a2 : Int) : Option (Bool) := if 0 ≤ (mn (a0.size : Int) 600) then (if (mn (a0.size : Int) 600) ≤ (a0.size : Int) then (gangwaylaw03_CsumPatches.j0 k (a0.extract 0 ((mn (a0.size : Int) 600) : Int).toNat) a1 a2) else (none)) else (none)
theorem gangwaylaw03_CsumPatches.mono_l : ∀ k, (∀ y0 y1 y2, LeO (gangwaylaw03_CsumPatches.j0 k y0 y1 y2) (gangwaylaw03_CsumPatches.j0 (k + 1) y0 y1 y2)) ∧ (∀ y0 y1 y2, LeO (gangwaylaw03_CsumPatches.j1 k y0 y1 y2) (gangwaylaw03_CsumPatches.j1 (k + 1) y0 y1 y2)) ∧ (∀ y0 y1, LeO (gangwaylaw03_CsumPatches.j2 k y0 y1) (gangwaylaw03_CsumPatches.j2 (k + 1) y0 y1))
  | 0 => ⟨fun _ _ _ r h => by simp [gangwaylaw03_CsumPatches.j0] at h, fun _ _ _ r h => by simp [gangwaylaw03_CsumPatches.j1] at h, fun _ _ r h => by simp [gangwaylaw03_CsumPatches.j2] at h⟩
  | k + 1 => by
    obtain ⟨ih0, ih1, ih2⟩ := gangwaylaw03_CsumPatches.mono_l k
    refine ⟨?_, ?_, ?_⟩
    · intro y0 y1 y2
      unfold gangwaylaw03_CsumPatches.j0
      repeat' first
      | (with_reducible exact ih0 _ _ _)
      | (with_reducible exact ih1 _ _ _)
      | (with_reducible exact ih2 _ _)
      | (with_reducible exact csum_Of.mono _ _)
      | (with_reducible exact csum_Patch.mono _ _ _ _)
      | (with_reducible exact gangwaylaw03_fixed.mono _)
      | (with_reducible exact gangwayref01_Bytes.mono _ _ _)
      | (with_reducible exact LeO.refl _)
      | (with_reducible exact LeO.none _)
      | (with_reducible refine LeO.ite ?_ ?_)
      | (with_reducible refine LeO.bind ?_ (fun _ => ?_))
      | exact ih0 _ _ _
      | exact ih1 _ _ _
      | exact ih2 _ _
      | exact csum_Of.mono _ _
      | exact csum_Patch.mono _ _ _ _
      | exact gangwaylaw03_fixed.mono _
      | exact gangwayref01_Bytes.mono _ _ _
      | exact LeO.none _
      | refine LeO.ite ?_ ?_
      | refine LeO.bind ?_ (fun _ => ?_)
    · intro y0 y1 y2
      unfold gangwaylaw03_CsumPatches.j1
      repeat' first
      | (with_reducible exact ih0 _ _ _)
      | (with_reducible exact ih1 _ _ _)
      | (with_reducible exact ih2 _ _)
      | (with_reducible exact csum_Of.mono _ _)
      | (with_reducible exact csum_Patch.mono _ _ _ _)
      | (with_reducible exact gangwaylaw03_fixed.mono _)
      | (with_reducible exact gangwayref01_Bytes.mono _ _ _)
      | (with_reducible exact LeO.refl _)
      | (with_reducible exact LeO.none _)
      | (with_reducible refine LeO.ite ?_ ?_)
      | (with_reducible refine LeO.bind ?_ (fun _ => ?_))
      | exact ih0 _ _ _
      | exact ih1 _ _ _
      | exact ih2 _ _
      | exact csum_Of.mono _ _
      | exact csum_Patch.mono _ _ _ _
      | exact gangwaylaw03_fixed.mono _
      | exact gangwayref01_Bytes.mono _ _ _
      | exact LeO.none _
      | refine LeO.ite ?_ ?_
      | refine LeO.bind ?_ (fun _ => ?_)
    · intro y0 y1
      unfold gangwaylaw03_CsumPatches.j2
      repeat' first
      | (with_reducible exact ih0 _ _ _)
      | (with_reducible exact ih1 _ _ _)
      | (with_reducible exact ih2 _ _)
      | (with_reducible exact csum_Of.mono _ _)
      | (with_reducible exact csum_Patch.mono _ _ _ _)
      | (with_reducible exact gangwaylaw03_fixed.mono _)
      | (with_reducible exact gangwayref01_Bytes.mono _ _ _)
      | (with_reducible exact LeO.refl _)
      | (with_reducible exact LeO.none _)
      | (with_reducible refine LeO.ite ?_ ?_)
      | (with_reducible refine LeO.bind ?_ (fun _ => ?_))
      | exact ih0 _ _ _
      | exact ih1 _ _ _
      | exact ih2 _ _
      | exact csum_Of.mono _ _
      | exact csum_Patch.mono _ _ _ _
      | exact gangwaylaw03_fixed.mono _
      | exact gangwayref01_Bytes.mono _ _ _
      | exact LeO.none _
      | refine LeO.ite ?_ ?_
      | refine LeO.bind ?_ (fun _ => ?_)
theorem gangwaylaw03_CsumPatches.mono : ∀ a0 a1 a2 k, LeO (gangwaylaw03_CsumPatches.f k a0 a1 a2) (gangwaylaw03_CsumPatches.f (k + 1) a0 a1 a2) := by
  intro a0 a1 a2 k
  obtain ⟨ih0, ih1, ih2⟩ := gangwaylaw03_CsumPatches.mono_l k
  unfold gangwaylaw03_CsumPatches.f
  repeat' first
      | (with_reducible exact ih0 _ _ _)
      | (with_reducible exact ih1 _ _ _)
      | (with_reducible exact ih2 _ _)
      | (with_reducible exact csum_Of.mono _ _)
      | (with_reducible exact csum_Patch.mono _ _ _ _)
      | (with_reducible exact gangwaylaw03_fixed.mono _)
      | (with_reducible exact gangwayref01_Bytes.mono _ _ _)
      | (with_reducible exact LeO.refl _)
      | (with_reducible exact LeO.none _)
      | (with_reducible refine LeO.ite ?_ ?_)
      | (with_reducible refine LeO.bind ?_ (fun _ => ?_))
      | exact ih0 _ _ _
      | exact ih1 _ _ _
      | exact ih2 _ _
      | exact csum_Of.mono _ _
      | exact csum_Patch.mono _ _ _ _
      | exact gangwaylaw03_fixed.mono _
      | exact gangwayref01_Bytes.mono _ _ _
      | exact LeO.none _
      | refine LeO.ite ?_ ?_
      | refine LeO.bind ?_ (fun _ => ?_)
def gangwaylaw03_CsumPatches.T5 : Bool × List (List Nat × List Nat) := (true, [([], []), ([], []), ([0, 1], [0, 1]), ([2], [2]), ([3], [3]), ([], []), ([], []), ([6], [6]), ([5, 7], [5, 7]), ([8], [8]), ([4, 9], [4, 9]), ([10, 0, 1, 2, 3, 4, 5, 6, 7, 8, 9, 10], [10])])
def gangwaylaw03_CsumPatches.B5 : List Nat := [0, 0, 3, 7, 15, 0, 0, 64, 224, 480, 1023, 2047]
theorem gangwaylaw03_CsumPatches.tab5 : rtab .any (opsOf Try.f6 5) = gangwaylaw03_CsumPatches.T5 := by kernel_rfl
theorem gangwaylaw03_CsumPatches.bits5 : waitsOk gangwaylaw03_CsumPatches.T5.2 gangwaylaw03_CsumPatches.B5 = true := by kernel_rfl
def gangwaylaw03_CsumPatches.T6 : Bool × List (List Nat × List Nat) := (true, [([], []), ([], []), ([0, 1], [0, 1]), ([], []), ([3], [3]), ([4], [4]), ([5], [5]), ([2, 6], [2, 6]), ([], []), ([], []), ([9], [9]), ([8, 10], [8, 10]), ([7, 11], [7, 11]), ([12, 6, 0, 1, 2, 3, 4, 5, 6, 7, 8, 9, 10, 11, 12], [12])])
def gangwaylaw03_CsumPatches.B6 : List Nat := [0, 0, 3, 0, 8, 24, 56, 127, 0, 0, 512, 1792, 4095, 8191]
theorem gangwaylaw03_CsumPatches.tab6 : rtab .any (opsOf Try.f6 6) = gangwaylaw03_CsumPatches.T6 := by kernel_rfl
theorem gangwaylaw03_CsumPatches.bits6 : waitsOk gangwaylaw03_CsumPatches.T6.2 gangwaylaw03_CsumPatches.B6 = true := by kernel_rfl
set_option maxHeartbeats 8000000 in
set_option maxRecDepth 100000 in
theorem gangwaylaw03_CsumPatches.calls (k : Nat) (a0 : ByteArray) (a1 : Int) (a2 : Int) (r : Bool) (w : World) (h : gangwaylaw03_CsumPatches.f k a0 a1 a2 = some r) :
    Calls Try.prog 6 #[.string a0, .int .i64 a1, .int .i64 a2] w fun e w' => e = .returned (.bool r) ∧ Below w.heap.size w w' := by
  have HB := Aside0.mk (Below.refl w.heap.size w)
  have H : (if 0 ≤ (mn (a0.size : Int) 600) then (if (mn (a0.size : Int) 600) ≤ (a0.size : Int) then (gangwaylaw03_CsumPatches.j0 k (a0.extract 0 ((mn (a0.size : Int) 600) : Int).toNat) a1 a2) else (none)) else (none)) = some r := h
  clear h
  have HC4 := Aside0.mk H
  clear H
  go_enter Try.func6, Try.ntmps6
  go_upto_region 1 with (fail)
  go_cut [0] (fun v0 wc => ∃ (kq : Nat) (x0_3 : ByteArray), v0 = .string x0_3 ∧ Aside0 (gangwaylaw03_CsumPatches.j0 kq x0_3 a1 a2 = some r) ∧ Aside0 (kq ≤ k) ∧ Aside0 (Below w.heap.size w wc))
  case first =>
    have H := HC4.out
    clear HC4
    obtain ⟨ji5, hji5⟩ : ∃ j_ : Int, (mn (a0.size : Int) 600) = j_ := ⟨_, rfl⟩
    replace H : (if 0 ≤ (ji5) then (if (ji5) ≤ (a0.size : Int) then (gangwaylaw03_CsumPatches.j0 k (a0.extract 0 ((ji5) : Int).toNat) a1 a2) else (none)) else (none)) = some r := by first | (rw [hji5] at H; exact H) | (simp only [hji5] at H ⊢; exact H)
    (try (have hji5h : ji5 ≤ 600 := by (rw [← hji5]; unfold mn; (repeat' split) <;> omega)))
    (try (have hji5g : ji5 ≤ 64 := by omega))
    (try (have hji5l : 0 ≤ ji5 := by (rw [← hji5]; unfold mn; (repeat' split) <;> omega)))
    (try (have hji5m : 0 ≤ ji5 := by omega))
    have hji5_ : (if 600 < (a0.size : Int) then 600 else (a0.size : Int)) = ji5 := hji5
    by_cases c6 : 0 ≤ (ji5)
    · rw [if_pos c6] at H
      have c6b0 := eq_true c6
      have c6b1 : decide (0 ≤ (ji5)) = true := decide_eq_true c6
      clear c6
      by_cases c7 : (ji5) ≤ (a0.size : Int)
      · rw [if_pos c7] at H
        have c7b0 := eq_true c7
        have c7b1 : decide ((ji5) ≤ (a0.size : Int)) = true := decide_eq_true c7
        clear c7
        have H' := Aside0.mk H
        clear H
        go_wp2
        go_meet
        case rel => exact ⟨_, (a0.extract 0 ((ji5) : Int).toNat), (by first | rfl | (simp; done) | (simp only [← hji5] <;> (first | rfl | simp)) | (simp [*]; done)), H', ⟨by first | omega | exact Nat.le_refl _⟩, ⟨by repeat (first | (with_reducible first | exact HB.out | apply below_alloc | apply pw_below_drewN | apply below_drew1) | exact HB.out)⟩⟩
      · rw [if_neg c7] at H
        exact absurd H (by simp)
    · rw [if_neg c6] at H
      exact absurd H (by simp)
  case rest =>
    clear HC4
    try clear p2
    try clear c6
    try clear c6b0
    try clear c6b1
    try clear c7
    try clear c7b0
    try clear c7b1
    obtain ⟨kq, x0_3, rfl, HA, HJ3, HB⟩ := hcut
    cases kq with
    | zero => exact absurd HA.out (by simp [gangwaylaw03_CsumPatches.j0])
    | succ kj3 =>
      have H := HA.out
      clear HA
      simp only [gangwaylaw03_CsumPatches.j0] at H
      by_cases c8 : (x0_3.size : Int) < 2
      · rw [if_pos c8] at H
        have c8b0 : decide ((x0_3.size : Int) < 2) = true := decide_eq_true c8
        have c8b1 : decide (x0_3.size < 2) = true := decide_eq_true (by omega)
        clear c8
        replace H := Option.bind_eq_some_iff.mp H
        obtain ⟨t210, A90, H⟩ := H
        replace H : (some t210) = some r := H
        have A9 := Aside0.mk A90
        clear A90
        obtain rfl := Option.some.inj H
        go_wp2_with (first | ((with_reducible refine gate_callee (f := 11) rfl ?_); refine goesL_ (some 20) rfl rfl Try.func11 (by kernel_rfl) rfl #[] rfl (by (try simp only [List.map_toArray, List.map_cons, List.map_nil]); first | done | rfl | (simp only [List.length_drop, List.length_take]; rfl)) ?_; (with_reducible refine (gangwaylaw03_fixed.calls kj3  t210 _ A9.out).mono ?_); rintro e w10 ⟨rfl, hb⟩; refine ⟨_, rfl, ?_⟩; have n0_ := Aside0.mk (below_step (by repeat (first | (with_reducible first | exact HB.out | apply below_alloc | apply pw_below_drewN | apply below_drew1) | exact HB.out)) hb); clear HB; have HB := n0_; clear n0_; (try clear hb); (try clear hb2); (try clear hk); (try clear hi)))
        go_ret
        exact ⟨by first | rfl | (simp [errW_none, errW_some] <;> rfl) | (simp [*, errW_none, errW_some] <;> rfl), by repeat (first | (with_reducible first | exact HB.out | apply below_alloc | apply pw_below_drewN | apply below_drew1) | exact HB.out)⟩
      · rw [if_neg c8] at H
        have c8b0 : decide ((x0_3.size : Int) < 2) = false := decide_eq_false c8
        have c8b1 : decide (x0_3.size < 2) = false := decide_eq_false (by omega)
        clear c8
        have HC11 := Aside0.mk H
        clear H
        go_upto_region 4 with (fail)
        go_cut [7] (fun v7 wc => ∃ (kq : Nat) (x7_10 : Int), v7 = .int .i64 x7_10 ∧ Aside0 (gangwaylaw03_CsumPatches.j1 kq x0_3 a2 x7_10 = some r) ∧ Aside0 (kq ≤ kj3) ∧ Aside0 (Below w.heap.size w wc))
        case first =>
          have H := HC11.out
          clear HC11
          by_cases c12 : (wrap64 ((x0_3.size : Int) / 2)) = 0
          · rw [if_pos c12] at H
            exact absurd H (by simp)
          · rw [if_neg c12] at H
            have c12b0 : ((wrap64 ((x0_3.size : Int) / 2)) == 0) = false := beq_eq_false_iff_ne.mpr c12
            have c12b1 : ((wrap64 ((x0_3.size : Int) / 2)) != 0) = true := bne_iff_ne.mpr c12
            (first | rw [c12b0] | (simp only [i64_w, i32_w]; rw [c12b0]) | skip)
            have H' := Aside0.mk H
            clear H
            go_wp2
            go_meet
            case rel => exact ⟨_, (wrap64 ((Int.tmod (Go.bits .and .i64 a1 65535) (wrap64 ((x0_3.size : Int) / 2))) * 2)), (by first | rfl | (simp; done) | (simp [*]; done)), H', ⟨by have := HJ3.out; first | omega | exact Nat.le_refl _⟩, ⟨by repeat (first | (with_reducible first | exact HB.out | apply below_alloc | apply pw_below_drewN | apply below_drew1) | exact HB.out)⟩⟩
        case rest =>
          clear HC11
          try clear c1
          try clear p2
          try clear c6
          try clear c6b0
          try clear c6b1
          try clear p6
          try clear c7
          try clear c7b0
          try clear c7b1
          try clear c8
          try clear c8b0
          try clear c8b1
          try clear c11
          try clear c12
          try clear c12b0
          try clear c12b1
          try clear p2
          obtain ⟨kq, x7_10, rfl, HA, HJ10, HB⟩ := hcut
          cases kq with
          | zero => exact absurd HA.out (by simp [gangwaylaw03_CsumPatches.j1])
          | succ kj10 =>
            have H := HA.out
            clear HA
            simp only [gangwaylaw03_CsumPatches.j1] at H
            by_cases c13 : 0 ≤ x7_10
            · rw [if_pos c13] at H
              have c13b0 : decide (0 ≤ x7_10) = true := decide_eq_true c13
              clear c13
              by_cases c14 : x7_10 < (x0_3.size : Int)
              · rw [if_pos c14] at H
                have c14b0 : decide (x7_10 < (x0_3.size : Int)) = true := decide_eq_true c14
                clear c14
                obtain ⟨ji16, hji16⟩ : ∃ j_ : Int, (wrap64 (x7_10 + 1)) = j_ := ⟨_, rfl⟩
                replace H : (if 0 ≤ (ji16) then (if (ji16) < (x0_3.size : Int) then (if x7_10 ≤ (x0_3.size : Int) then ((gangwayref01_Bytes.f kj10 (IntKind.u64.wrap (Go.bits .and .i64 a2 65535)) 2).bind fun t211 => (if (x0_3.extract 0 (x7_10 : Int).toNat).size + t211.size ≤ 9223372036854775807 then (if 0 ≤ (wrap64 (x7_10 + 2)) then (if (wrap64 (x7_10 + 2)) ≤ (x0_3.size : Int) then (if ((x0_3.extract 0 (x7_10 : Int).toNat) ++ t211).size + (x0_3.extract ((wrap64 (x7_10 + 2)) : Int).toNat x0_3.size).size ≤ 9223372036854775807 then ((csum_Of.f kj10 (([x0_3] : List ByteArray))).bind fun t215 => ((csum_Patch.f kj10 t215 (wrap64 ((wrap64 ((wrap64 (bt x0_3 x7_10)) * 256)) + (wrap64 (bt x0_3 (ji16))))) (Go.bits .and .i64 a2 65535)).bind fun t216 => ((csum_Of.f kj10 (([((x0_3.extract 0 (x7_10 : Int).toNat) ++ t211) ++ (x0_3.extract ((wrap64 (x7_10 + 2)) : Int).toNat x0_3.size)] : List ByteArray))).bind fun t220 => (gangwaylaw03_CsumPatches.j2 kj10 t216 t220)))) else (none)) else (none)) else (none)) else (none))) else (none)) else (none)) else (none)) = some r := by first | (rw [hji16] at H; exact H) | (simp only [hji16] at H ⊢; exact H)
                have hji16w : (IntKind.i64.wrap (x7_10 + 1)) = ji16 := (i64_w _).trans hji16
                by_cases c17 : 0 ≤ (ji16)
                · rw [if_pos c17] at H
                  have c17b0 : decide (0 ≤ (ji16)) = true := decide_eq_true c17
                  clear c17
                  by_cases c18 : (ji16) < (x0_3.size : Int)
                  · rw [if_pos c18] at H
                    have c18b0 : decide ((ji16) < (x0_3.size : Int)) = true := decide_eq_true c18
                    clear c18
                    have c20b0 := eq_true (of_decide_eq_true (by first | (with_reducible assumption) | assumption) : 0 ≤ x7_10)
                    by_cases c21 : x7_10 ≤ (x0_3.size : Int)
                    · rw [if_pos c21] at H
                      have c21b0 := eq_true c21
                      have c21b1 : decide (x7_10 ≤ (x0_3.size : Int)) = true := decide_eq_true c21
                      clear c21
                      replace H := Option.bind_eq_some_iff.mp H
                      obtain ⟨t211, A220, H⟩ := H
                      replace H : (if (x0_3.extract 0 (x7_10 : Int).toNat).size + t211.size ≤ 9223372036854775807 then (if 0 ≤ (wrap64 (x7_10 + 2)) then (if (wrap64 (x7_10 + 2)) ≤ (x0_3.size : Int) then (if ((x0_3.extract 0 (x7_10 : Int).toNat) ++ t211).size + (x0_3.extract ((wrap64 (x7_10 + 2)) : Int).toNat x0_3.size).size ≤ 9223372036854775807 then ((csum_Of.f kj10 (([x0_3] : List ByteArray))).bind fun t215 => ((csum_Patch.f kj10 t215 (wrap64 ((wrap64 ((wrap64 (bt x0_3 x7_10)) * 256)) + (wrap64 (bt x0_3 (ji16))))) (Go.bits .and .i64 a2 65535)).bind fun t216 => ((csum_Of.f kj10 (([((x0_3.extract 0 (x7_10 : Int).toNat) ++ t211) ++ (x0_3.extract ((wrap64 (x7_10 + 2)) : Int).toNat x0_3.size)] : List ByteArray))).bind fun t220 => (gangwaylaw03_CsumPatches.j2 kj10 t216 t220)))) else (none)) else (none)) else (none)) else (none)) = some r := H
                      have A22 := Aside0.mk A220
                      clear A220
                      by_cases c23 : (x0_3.extract 0 (x7_10 : Int).toNat).size + t211.size ≤ 9223372036854775807
                      · rw [if_pos c23] at H
                        have c23b0 := eq_true c23
                        have c23b1 : decide ((x0_3.extract 0 (x7_10 : Int).toNat).size + t211.size ≤ 9223372036854775807) = true := decide_eq_true c23
                        try have c23b2 : (9223372036854775807 < (x0_3.extract 0 (x7_10 : Int).toNat).size + t211.size) = False := eq_false (Nat.not_lt.2 c23)
                        obtain ⟨ji24, hji24⟩ : ∃ j_ : Int, (wrap64 (x7_10 + 2)) = j_ := ⟨_, rfl⟩
                        replace H : (if 0 ≤ (ji24) then (if (ji24) ≤ (x0_3.size : Int) then (if ((x0_3.extract 0 (x7_10 : Int).toNat) ++ t211).size + (x0_3.extract ((ji24) : Int).toNat x0_3.size).size ≤ 9223372036854775807 then ((csum_Of.f kj10 (([x0_3] : List ByteArray))).bind fun t215 => ((csum_Patch.f kj10 t215 (wrap64 ((wrap64 ((wrap64 (bt x0_3 x7_10)) * 256)) + (wrap64 (bt x0_3 (ji16))))) (Go.bits .and .i64 a2 65535)).bind fun t216 => ((csum_Of.f kj10 (([((x0_3.extract 0 (x7_10 : Int).toNat) ++ t211) ++ (x0_3.extract ((ji24) : Int).toNat x0_3.size)] : List ByteArray))).bind fun t220 => (gangwaylaw03_CsumPatches.j2 kj10 t216 t220)))) else (none)) else (none)) else (none)) = some r := by first | (rw [hji24] at H; exact H) | (simp only [hji24] at H ⊢; exact H)
                        (try rw [hji24] at A22)
                        have hji24w : (IntKind.i64.wrap (x7_10 + 2)) = ji24 := (i64_w _).trans hji24
                        by_cases c25 : 0 ≤ (ji24)
                        · rw [if_pos c25] at H
                          have c25b0 := eq_true c25
                          have c25b1 : decide (0 ≤ (ji24)) = true := decide_eq_true c25
                          clear c25
                          by_cases c26 : (ji24) ≤ (x0_3.size : Int)
                          · rw [if_pos c26] at H
                            have c26b0 := eq_true c26
                            have c26b1 : decide ((ji24) ≤ (x0_3.size : Int)) = true := decide_eq_true c26
                            clear c26
                            by_cases c27 : ((x0_3.extract 0 (x7_10 : Int).toNat) ++ t211).size + (x0_3.extract ((ji24) : Int).toNat x0_3.size).size ≤ 9223372036854775807
                            · rw [if_pos c27] at H
                              have c27b0 := eq_true c27
                              have c27b1 : decide (((x0_3.extract 0 (x7_10 : Int).toNat) ++ t211).size + (x0_3.extract ((ji24) : Int).toNat x0_3.size).size ≤ 9223372036854775807) = true := decide_eq_true c27
                              have c27z := c27
                              simp only [ByteArray.size_append] at c27z
                              have c27z1 := eq_true c27z
                              have c27z2 := eq_false (Nat.not_lt.2 c27z)
                              try have c27b2 : (9223372036854775807 < ((x0_3.extract 0 (x7_10 : Int).toNat) ++ t211).size + (x0_3.extract ((ji24) : Int).toNat x0_3.size).size) = False := eq_false (Nat.not_lt.2 c27)
                              have HC28 := Aside0.mk H
                              clear H
                              try go_wp2
                              have n0_ := Aside0.mk (below_drew1 HB.out)
                              clear HB
                              have HB := n0_
                              clear n0_
                              have p15 : 0 ≤ (x7_10 : Int) := of_decide_eq_true (by first | (with_reducible assumption) | assumption)
                              have q15 : x7_10 < (x0_3.size : Int) := of_decide_eq_true (by first | (with_reducible assumption) | assumption)
                              have hx15 := bt_at x0_3 x7_10
                              replace p15 := eq_true p15
                              replace q15 := eq_true q15
                              have p19 : 0 ≤ ((ji16) : Int) := of_decide_eq_true (by first | (with_reducible assumption) | assumption)
                              have q19 : (ji16) < (x0_3.size : Int) := of_decide_eq_true (by first | (with_reducible assumption) | assumption)
                              have hx19 := bt_at x0_3 (ji16)
                              replace p19 := eq_true p19
                              replace q19 := eq_true q19
                              refine start_ (n := 12) (S := fun w' => True) (ds := []) #[false, false, false, false, false, false, false, false, false, false, false, false] (by kernel_rfl) rfl rfl trivial (fun hHeld => ?_); refine with_tabW gangwaylaw03_CsumPatches.tab5 gangwaylaw03_CsumPatches.bits5 (fun HT_ HW_ => ?_)
                              generalize wc.drew = w29 at HB hHeld ⊢
                              refine pure_ (i := 0) (N := some 28) (v := ?_) (a' := ?_) #[true, false, false, false, false, false, false, false, false, false, false, false] rfl rfl (any_of HT_.out (by kernel_rfl)) (fun _ _ _ h => h) (Or.inl ⟨by rfl, ?_⟩) ?_ ?_
                              rotate_left
                              · intro w'
                                go_simp
                                first | with_reducible rfl | (rw [if_neg (by (try simp only [decide_eq_true_eq, ByteArray.size_append, ByteArray.size_extract, eq_iff_iff, iff_true, iff_false, Nat.not_lt] at *); omega)]; try with_reducible rfl)
                              rotate_left
                              · simp only [Act.put, List.setIfInBounds_toArray, List.set_cons_zero, List.set_cons_succ, i64_w, i32_w]
                                rfl
                              refine pure_ (i := 1) (N := some 29) (v := ?_) (a' := ?_) #[true, true, false, false, false, false, false, false, false, false, false, false] rfl rfl (any_of HT_.out (by kernel_rfl)) (fun _ _ _ h => h) (Or.inl ⟨by rfl, ?_⟩) ?_ ?_
                              rotate_left
                              · intro w'
                                go_simp
                                first | with_reducible rfl | (rw [if_neg (by (try simp only [decide_eq_true_eq, ByteArray.size_append, ByteArray.size_extract, eq_iff_iff, iff_true, iff_false, Nat.not_lt] at *); omega)]; try with_reducible rfl)
                              rotate_left
                              · simp only [Act.put, List.setIfInBounds_toArray, List.set_cons_zero, List.set_cons_succ, i64_w, i32_w]
                                rfl
                              refine pure_ (i := 5) (N := some 33) (v := ?_) (a' := ?_) #[true, true, false, false, false, true, false, false, false, false, false, false] rfl rfl (any_of HT_.out (by kernel_rfl)) (fun _ _ _ h => h) (Or.inl ⟨by rfl, ?_⟩) ?_ ?_
                              rotate_left
                              · intro w'
                                go_simp
                                first | with_reducible rfl | (rw [if_neg (by (try simp only [decide_eq_true_eq, ByteArray.size_append, ByteArray.size_extract, eq_iff_iff, iff_true, iff_false, Nat.not_lt] at *); omega)]; try with_reducible rfl)
                              rotate_left
                              · simp only [Act.put, List.setIfInBounds_toArray, List.set_cons_zero, List.set_cons_succ, i64_w, i32_w]
                                rfl
                              refine pure_ (i := 6) (N := some 34) (v := ?_) (a' := ?_) #[true, true, false, false, false, true, true, false, false, false, false, false] rfl rfl (any_of HT_.out (by kernel_rfl)) (fun _ _ _ h => h) (Or.inl ⟨by rfl, ?_⟩) ?_ ?_
                              rotate_left
                              · intro w'
                                go_simp
                                first | with_reducible rfl | (rw [if_neg (by (try simp only [decide_eq_true_eq, ByteArray.size_append, ByteArray.size_extract, eq_iff_iff, iff_true, iff_false, Nat.not_lt] at *); omega)]; try with_reducible rfl)
                              rotate_left
                              · simp only [Act.put, List.setIfInBounds_toArray, List.set_cons_zero, List.set_cons_succ, i64_w, i32_w]
                                rfl
                              refine pure_ (i := 7) (N := some 35) (v := ?_) (a' := ?_) #[true, true, false, false, false, true, true, true, false, false, false, false] rfl rfl (any_of HT_.out (by kernel_rfl)) (fun _ _ _ h => h) (Or.inl ⟨by rfl, ?_⟩) ?_ ?_
                              rotate_left
                              · intro w'
                                go_simp
                                first | with_reducible rfl | (rw [if_neg (by (try simp only [decide_eq_true_eq, ByteArray.size_append, ByteArray.size_extract, eq_iff_iff, iff_true, iff_false, Nat.not_lt] at *); omega)]; try with_reducible rfl)
                              rotate_left
                              · simp only [Act.put, List.setIfInBounds_toArray, List.set_cons_zero, List.set_cons_succ, i64_w, i32_w]
                                rfl
                              refine take_ (i := 2) (N := some 30) (v := ?_) (a' := ?_) #[true, true, true, false, false, true, true, true, false, false, false, false] rfl rfl (take_ofW HT_.out HW_.out (by kernel_rfl)) (fun _ _ _ h => h) (Or.inl ⟨by rfl, ?_⟩) hHeld ?_ ?_
                              rotate_left
                              · intro w' _
                                go_simp
                                with_reducible rfl
                              rotate_left
                              · simp only [Act.put, List.setIfInBounds_toArray, List.set_cons_zero, List.set_cons_succ, i64_w, i32_w]
                                rfl
                              refine pure_ (i := 3) (N := some 31) (v := ?_) (a' := ?_) #[true, true, true, true, false, true, true, true, false, false, false, false] rfl rfl (any_of HT_.out (by kernel_rfl)) (fun _ _ _ h => h) (Or.inl ⟨by rfl, ?_⟩) ?_ ?_
                              rotate_left
                              · intro w'
                                go_simp
                                first | with_reducible rfl | (rw [if_neg (by (try simp only [decide_eq_true_eq, ByteArray.size_append, ByteArray.size_extract, eq_iff_iff, iff_true, iff_false, Nat.not_lt] at *); omega)]; try with_reducible rfl)
                              rotate_left
                              · simp only [Act.put, List.setIfInBounds_toArray, List.set_cons_zero, List.set_cons_succ, i64_w, i32_w]
                                rfl
                              refine pure_ (i := 4) (N := some 32) (v := ?_) (a' := ?_) #[true, true, true, true, true, true, true, true, false, false, false, false] rfl rfl (any_of HT_.out (by kernel_rfl)) (fun _ _ _ h => h) (Or.inl ⟨by rfl, ?_⟩) ?_ ?_
                              rotate_left
                              · intro w'
                                go_simp
                                first | with_reducible rfl | (rw [if_neg (by (try simp only [decide_eq_true_eq, ByteArray.size_append, ByteArray.size_extract, eq_iff_iff, iff_true, iff_false, Nat.not_lt] at *); omega)]; try with_reducible rfl)
                              rotate_left
                              · simp only [Act.put, List.setIfInBounds_toArray, List.set_cons_zero, List.set_cons_succ, i64_w, i32_w]
                                rfl
                              refine take_ (i := 8) (N := some 36) (v := ?_) (a' := ?_) #[true, true, true, true, true, true, true, true, true, false, false, false] rfl rfl (take_ofW HT_.out HW_.out (by kernel_rfl)) (fun _ _ _ h => h) (Or.inl ⟨by rfl, ?_⟩) hHeld ?_ ?_
                              rotate_left
                              · intro w' _
                                go_simp
                                with_reducible rfl
                              rotate_left
                              · simp only [Act.put, List.setIfInBounds_toArray, List.set_cons_zero, List.set_cons_succ, i64_w, i32_w]
                                rfl
                              refine pure_ (i := 9) (N := some 37) (v := ?_) (a' := ?_) #[true, true, true, true, true, true, true, true, true, true, false, false] rfl rfl (any_of HT_.out (by kernel_rfl)) (fun _ _ _ h => h) (Or.inl ⟨by rfl, ?_⟩) ?_ ?_
                              rotate_left
                              · intro w'
                                go_simp
                                first | with_reducible rfl | (rw [if_neg (by (try simp only [decide_eq_true_eq, ByteArray.size_append, ByteArray.size_extract, eq_iff_iff, iff_true, iff_false, Nat.not_lt] at *); omega)]; try with_reducible rfl)
                              rotate_left
                              · simp only [Act.put, List.setIfInBounds_toArray, List.set_cons_zero, List.set_cons_succ, i64_w, i32_w]
                                rfl
                              refine pure_ (i := 10) (N := some 38) (v := ?_) (a' := ?_) #[true, true, true, true, true, true, true, true, true, true, true, false] rfl rfl (any_of HT_.out (by kernel_rfl)) (fun _ _ _ h => h) (Or.inl ⟨by rfl, ?_⟩) ?_ ?_
                              rotate_left
                              · intro w'
                                go_simp
                                first | with_reducible rfl | (rw [if_neg (by (try simp only [decide_eq_true_eq, ByteArray.size_append, ByteArray.size_extract, eq_iff_iff, iff_true, iff_false, Nat.not_lt] at *); omega)]; try with_reducible rfl)
                              rotate_left
                              · simp only [Act.put, List.setIfInBounds_toArray, List.set_cons_zero, List.set_cons_succ, i64_w, i32_w]
                                rfl
                              refine pure_ (i := 11) (N := some 8) (v := ?_) (a' := ?_) #[true, true, true, true, true, true, true, true, true, true, true, true] rfl rfl (any_of HT_.out (by kernel_rfl)) (fun _ _ _ h => h) (Or.inl ⟨by rfl, ?_⟩) ?_ ?_
                              rotate_left
                              · intro w'
                                go_simp
                                first | with_reducible rfl | (rw [if_neg (by (try simp only [decide_eq_true_eq, ByteArray.size_append, ByteArray.size_extract, eq_iff_iff, iff_true, iff_false, Nat.not_lt] at *); omega)]; try with_reducible rfl)
                              rotate_left
                              · simp only [Act.put, List.setIfInBounds_toArray, List.set_cons_zero, List.set_cons_succ, i64_w, i32_w]
                                rfl
                              refine done_ (done_of HT_.out (by kernel_rfl)) ?_
                              try go_wp2
                              have n0_ := Aside0.mk (below_drew1 HB.out)
                              clear HB
                              have HB := n0_
                              clear n0_
                              refine start_ (n := 14) (S := fun w' => True) (ds := []) #[false, false, false, false, false, false, false, false, false, false, false, false, false, false] (by kernel_rfl) rfl rfl trivial (fun hHeld => ?_); refine with_tabW gangwaylaw03_CsumPatches.tab6 gangwaylaw03_CsumPatches.bits6 (fun HT_ HW_ => ?_)
                              generalize w29.drew = w30 at HB hHeld ⊢
                              refine pure_ (i := 0) (N := some 39) (v := ?_) (a' := ?_) #[true, false, false, false, false, false, false, false, false, false, false, false, false, false] rfl rfl (any_of HT_.out (by kernel_rfl)) (fun _ _ _ h => h) (Or.inl ⟨by rfl, ?_⟩) ?_ ?_
                              rotate_left
                              · intro w'
                                go_simp
                                first | with_reducible rfl | (rw [if_neg (by (try simp only [decide_eq_true_eq, ByteArray.size_append, ByteArray.size_extract, eq_iff_iff, iff_true, iff_false, Nat.not_lt] at *); omega)]; try with_reducible rfl)
                              rotate_left
                              · simp only [Act.put, List.setIfInBounds_toArray, List.set_cons_zero, List.set_cons_succ, i64_w, i32_w]
                                rfl
                              refine pure_ (i := 1) (N := some 40) (v := ?_) (a' := ?_) #[true, true, false, false, false, false, false, false, false, false, false, false, false, false] rfl rfl (any_of HT_.out (by kernel_rfl)) (fun _ _ _ h => h) (Or.inl ⟨by rfl, ?_⟩) ?_ ?_
                              rotate_left
                              · intro w'
                                go_simp
                                first | with_reducible rfl | (rw [if_neg (by (try simp only [decide_eq_true_eq, ByteArray.size_append, ByteArray.size_extract, eq_iff_iff, iff_true, iff_false, Nat.not_lt] at *); omega)]; try with_reducible rfl)
                              rotate_left
                              · simp only [Act.put, List.setIfInBounds_toArray, List.set_cons_zero, List.set_cons_succ, i64_w, i32_w]
                                rfl
                              refine pure_ (i := 2) (N := some 41) (v := ?_) (a' := ?_) #[true, true, true, false, false, false, false, false, false, false, false, false, false, false] rfl rfl (any_of HT_.out (by kernel_rfl)) (fun _ _ _ h => h) (Or.inl ⟨by rfl, ?_⟩) ?_ ?_
                              rotate_left
                              · intro w'
                                go_simp
                                first | with_reducible rfl | (rw [if_neg (by (try simp only [decide_eq_true_eq, ByteArray.size_append, ByteArray.size_extract, eq_iff_iff, iff_true, iff_false, Nat.not_lt] at *); omega)]; try with_reducible rfl)
                              rotate_left
                              · simp only [Act.put, List.setIfInBounds_toArray, List.set_cons_zero, List.set_cons_succ, i64_w, i32_w]
                                rfl
                              refine pure_ (i := 3) (N := some 42) (v := ?_) (a' := ?_) #[true, true, true, true, false, false, false, false, false, false, false, false, false, false] rfl rfl (any_of HT_.out (by kernel_rfl)) (fun _ _ _ h => h) (Or.inl ⟨by rfl, ?_⟩) ?_ ?_
                              rotate_left
                              · intro w'
                                go_simp
                                first | with_reducible rfl | (rw [if_neg (by (try simp only [decide_eq_true_eq, ByteArray.size_append, ByteArray.size_extract, eq_iff_iff, iff_true, iff_false, Nat.not_lt] at *); omega)]; try with_reducible rfl)
                              rotate_left
                              · simp only [Act.put, List.setIfInBounds_toArray, List.set_cons_zero, List.set_cons_succ, i64_w, i32_w]
                                rfl
                              refine pure_ (i := 4) (N := some 43) (v := ?_) (a' := ?_) #[true, true, true, true, true, false, false, false, false, false, false, false, false, false] rfl rfl (any_of HT_.out (by kernel_rfl)) (fun _ _ _ h => h) (Or.inl ⟨by rfl, ?_⟩) ?_ ?_
                              rotate_left
                              · intro w'
                                go_simp
                                first | with_reducible rfl | (rw [if_neg (by (try simp only [decide_eq_true_eq, ByteArray.size_append, ByteArray.size_extract, eq_iff_iff, iff_true, iff_false, Nat.not_lt] at *); omega)]; try with_reducible rfl)
                              rotate_left
                              · simp only [Act.put, List.setIfInBounds_toArray, List.set_cons_zero, List.set_cons_succ, i64_w, i32_w]
                                rfl
                              refine pure_ (i := 5) (N := some 44) (v := ?_) (a' := ?_) #[true, true, true, true, true, true, false, false, false, false, false, false, false, false] rfl rfl (any_of HT_.out (by kernel_rfl)) (fun _ _ _ h => h) (Or.inl ⟨by rfl, ?_⟩) ?_ ?_
                              rotate_left
                              · intro w'
                                go_simp
                                first | with_reducible rfl | (rw [if_neg (by (try simp only [decide_eq_true_eq, ByteArray.size_append, ByteArray.size_extract, eq_iff_iff, iff_true, iff_false, Nat.not_lt] at *); omega)]; try with_reducible rfl)
                              rotate_left
                              · simp only [Act.put, List.setIfInBounds_toArray, List.set_cons_zero, List.set_cons_succ, i64_w, i32_w]
                                rfl
                              refine pure_ (i := 8) (N := some 47) (v := ?_) (a' := ?_) #[true, true, true, true, true, true, false, false, true, false, false, false, false, false] rfl rfl (any_of HT_.out (by kernel_rfl)) (fun _ _ _ h => h) (Or.inl ⟨by rfl, ?_⟩) ?_ ?_
                              rotate_left
                              · intro w'
                                go_simp
                                first | with_reducible rfl | (rw [if_neg (by (try simp only [decide_eq_true_eq, ByteArray.size_append, ByteArray.size_extract, eq_iff_iff, iff_true, iff_false, Nat.not_lt] at *); omega)]; try with_reducible rfl)
                              rotate_left
                              · simp only [Act.put, List.setIfInBounds_toArray, List.set_cons_zero, List.set_cons_succ, i64_w, i32_w]
                                rfl
                              refine pure_ (i := 9) (N := some 48) (v := ?_) (a' := ?_) #[true, true, true, true, true, true, false, false, true, true, false, false, false, false] rfl rfl (any_of HT_.out (by kernel_rfl)) (fun _ _ _ h => h) (Or.inl ⟨by rfl, ?_⟩) ?_ ?_
                              rotate_left
                              · intro w'
                                go_simp
                                first | with_reducible rfl | (rw [if_neg (by (try simp only [decide_eq_true_eq, ByteArray.size_append, ByteArray.size_extract, eq_iff_iff, iff_true, iff_false, Nat.not_lt] at *); omega)]; try with_reducible rfl)
                              rotate_left
                              · simp only [Act.put, List.setIfInBounds_toArray, List.set_cons_zero, List.set_cons_succ, i64_w, i32_w]
                                rfl
                              refine pure_ (i := 10) (N := some 49) (v := ?_) (a' := ?_) #[true, true, true, true, true, true, false, false, true, true, true, false, false, false] rfl rfl (any_of HT_.out (by kernel_rfl)) (fun _ _ _ h => h) (Or.inl ⟨by rfl, ?_⟩) ?_ ?_
                              rotate_left
                              · intro w'
                                go_simp
                                first | with_reducible rfl | (rw [if_neg (by (try simp only [decide_eq_true_eq, ByteArray.size_append, ByteArray.size_extract, eq_iff_iff, iff_true, iff_false, Nat.not_lt] at *); omega)]; try with_reducible rfl)
                              rotate_left
                              · simp only [Act.put, List.setIfInBounds_toArray, List.set_cons_zero, List.set_cons_succ, i64_w, i32_w]
                                rfl
                              refine pure_ (i := 11) (N := some 50) (v := ?_) (a' := ?_) #[true, true, true, true, true, true, false, false, true, true, true, true, false, false] rfl rfl (any_of HT_.out (by kernel_rfl)) (fun _ _ _ h => h) (Or.inl ⟨by rfl, ?_⟩) ?_ ?_
                              rotate_left
                              · intro w'
                                go_simp
                                first | with_reducible rfl | (rw [if_neg (by (try simp only [decide_eq_true_eq, ByteArray.size_append, ByteArray.size_extract, eq_iff_iff, iff_true, iff_false, Nat.not_lt] at *); omega)]; try with_reducible rfl)
                              rotate_left
                              · simp only [Act.put, List.setIfInBounds_toArray, List.set_cons_zero, List.set_cons_succ, i64_w, i32_w]
                                rfl
                              refine one_ (i := 6) (N := some 45) #[true, true, true, true, true, true, true, false, true, true, true, true, false, false] rfl rfl (one_of HT_.out (by kernel_rfl)) (by decide) (fun K hK => ?_)
                              refine goes_ Try.func19 (by kernel_rfl) rfl #[.int .u64 (IntKind.u64.wrap (Go.bits .and .i64 a2 65535)), .int .i64 2] (by rfl) rfl rfl (by (try simp only [List.map_toArray, List.map_cons, List.map_nil]); first | done | rfl | (simp only [List.length_drop, List.length_take]; rfl)) ?_
                              with_reducible refine (gangwayref01_Bytes.calls kj10 (IntKind.u64.wrap (Go.bits .and .i64 a2 65535)) 2 t211 _ A22.out).mono ?_
                              rintro e w31 ⟨rfl, hb⟩
                              refine ⟨_, rfl, ?_⟩
                              have n0_ := Aside0.mk (below_step (by repeat (first | (with_reducible first | exact HB.out | apply below_alloc | apply pw_below_drewN | apply below_drew1) | exact HB.out)) hb)
                              clear HB
                              have HB := n0_
                              clear n0_
                              (try clear hb)
                              (try clear hb2)
                              (try clear hk)
                              (try clear hi)
                              refine hK.out _ _ trivial (fun hHeld => ?_)
                              clear hK K
                              refine norm_ (a' := ?_) ?_ ?_
                              rotate_left
                              · show Act.put _ (some 45) _ = _
                                simp only [Act.put, List.setIfInBounds_toArray, List.set_cons_zero, List.set_cons_succ, i64_w, i32_w]
                                rfl
                              refine pure_ (i := 7) (N := some 46) (v := ?_) (a' := ?_) #[true, true, true, true, true, true, true, true, true, true, true, true, false, false] rfl rfl (any_of HT_.out (by kernel_rfl)) (fun _ _ _ h => h) (Or.inl ⟨by rfl, ?_⟩) ?_ ?_
                              rotate_left
                              · intro w'
                                go_simp
                                first | with_reducible rfl | (rw [if_neg (by (try simp only [decide_eq_true_eq, ByteArray.size_append, ByteArray.size_extract, eq_iff_iff, iff_true, iff_false, Nat.not_lt] at *); omega)]; try with_reducible rfl)
                              rotate_left
                              · simp only [Act.put, List.setIfInBounds_toArray, List.set_cons_zero, List.set_cons_succ, i64_w, i32_w]
                                rfl
                              refine pure_ (i := 12) (N := some 51) (v := ?_) (a' := ?_) #[true, true, true, true, true, true, true, true, true, true, true, true, true, false] rfl rfl (any_of HT_.out (by kernel_rfl)) (fun _ _ _ h => h) (Or.inl ⟨by rfl, ?_⟩) ?_ ?_
                              rotate_left
                              · intro w'
                                go_simp
                                first | with_reducible rfl | (rw [if_neg (by (try simp only [decide_eq_true_eq, ByteArray.size_append, ByteArray.size_extract, eq_iff_iff, iff_true, iff_false, Nat.not_lt] at *); omega)]; try with_reducible rfl)
                              rotate_left
                              · simp only [Act.put, List.setIfInBounds_toArray, List.set_cons_zero, List.set_cons_succ, i64_w, i32_w]
                                rfl
                              refine pure_ (i := 13) (N := some 9) (v := ?_) (a' := ?_) #[true, true, true, true, true, true, true, true, true, true, true, true, true, true] rfl rfl (any_of HT_.out (by kernel_rfl)) (fun _ _ _ h => h) (Or.inl ⟨by rfl, ?_⟩) ?_ ?_
                              rotate_left
                              · intro w'
                                go_simp
                                first | with_reducible rfl | (rw [if_neg (by (try simp only [decide_eq_true_eq, ByteArray.size_append, ByteArray.size_extract, eq_iff_iff, iff_true, iff_false, Nat.not_lt] at *); omega)]; try with_reducible rfl)
                              rotate_left
                              · simp only [Act.put, List.setIfInBounds_toArray, List.set_cons_zero, List.set_cons_succ, i64_w, i32_w]
                                rfl
                              refine done_ (done_of HT_.out (by kernel_rfl)) ?_
                              go_upto_region 7 with (fail)
                              go_cut [10, 11] (fun v10 v11 wc => ∃ (kq : Nat) (x10_27 : Int) (x11_27 : Int), v10 = .int .i64 x10_27 ∧ v11 = .int .i64 x11_27 ∧ Aside0 (gangwaylaw03_CsumPatches.j2 kq x10_27 x11_27 = some r) ∧ Aside0 (kq ≤ kj10) ∧ Aside0 (Below w.heap.size w wc))
                              case first =>
                                have H := HC28.out
                                clear HC28
                                obtain ⟨y212, hy212⟩ : ∃ y_ : List ByteArray, y_ = (([x0_3] : List ByteArray)) := ⟨_, rfl⟩
                                replace H : ((csum_Of.f kj10 y212).bind fun t215 => ((csum_Patch.f kj10 t215 (wrap64 ((wrap64 ((wrap64 (bt x0_3 x7_10)) * 256)) + (wrap64 (bt x0_3 (ji16))))) (Go.bits .and .i64 a2 65535)).bind fun t216 => ((csum_Of.f kj10 (([((x0_3.extract 0 (x7_10 : Int).toNat) ++ t211) ++ (x0_3.extract ((ji24) : Int).toNat x0_3.size)] : List ByteArray))).bind fun t220 => (gangwaylaw03_CsumPatches.j2 kj10 t216 t220)))) = some r := by first | (rw [hy212]; with_reducible exact H) | (have H2_ := (Option.bind_some _ _).symm.trans H; rw [hy212]; with_reducible exact H2_) | (have H2_ := (Option.bind_some _ _).symm.trans H; with_reducible exact H2_) | with_reducible exact H | (rw [hy212]; exact H) | exact H
                                have Ny212 := Aside0.mk hy212
                                clear hy212
                                replace H := Option.bind_eq_some_iff.mp H
                                obtain ⟨t215, A320, H⟩ := H
                                replace H : ((csum_Patch.f kj10 t215 (wrap64 ((wrap64 ((wrap64 (bt x0_3 x7_10)) * 256)) + (wrap64 (bt x0_3 (ji16))))) (Go.bits .and .i64 a2 65535)).bind fun t216 => ((csum_Of.f kj10 (([((x0_3.extract 0 (x7_10 : Int).toNat) ++ t211) ++ (x0_3.extract ((ji24) : Int).toNat x0_3.size)] : List ByteArray))).bind fun t220 => (gangwaylaw03_CsumPatches.j2 kj10 t216 t220))) = some r := H
                                have A32 := Aside0.mk A320
                                clear A320
                                replace H := Option.bind_eq_some_iff.mp H
                                obtain ⟨t216, A330, H⟩ := H
                                replace H : ((csum_Of.f kj10 (([((x0_3.extract 0 (x7_10 : Int).toNat) ++ t211) ++ (x0_3.extract ((ji24) : Int).toNat x0_3.size)] : List ByteArray))).bind fun t220 => (gangwaylaw03_CsumPatches.j2 kj10 t216 t220)) = some r := H
                                have A33 := Aside0.mk A330
                                clear A330
                                obtain ⟨y217, hy217⟩ : ∃ y_ : List ByteArray, y_ = (([((x0_3.extract 0 (x7_10 : Int).toNat) ++ t211) ++ (x0_3.extract ((ji24) : Int).toNat x0_3.size)] : List ByteArray)) := ⟨_, rfl⟩
                                replace H : ((csum_Of.f kj10 y217).bind fun t220 => (gangwaylaw03_CsumPatches.j2 kj10 t216 t220)) = some r := by first | (rw [hy217]; with_reducible exact H) | (have H2_ := (Option.bind_some _ _).symm.trans H; rw [hy217]; with_reducible exact H2_) | (have H2_ := (Option.bind_some _ _).symm.trans H; with_reducible exact H2_) | with_reducible exact H | (rw [hy217]; exact H) | exact H
                                have Ny217 := Aside0.mk hy217
                                clear hy217
                                replace H := Option.bind_eq_some_iff.mp H
                                obtain ⟨t220, A340, H⟩ := H
                                replace H : (gangwaylaw03_CsumPatches.j2 kj10 t216 t220) = some r := H
                                have A34 := Aside0.mk A340
                                clear A340
                                have H' := Aside0.mk H
                                clear H
                                go_wp2_with (first | ((with_reducible refine gate_dst (N := 53) rfl ?_); refine Kd.R_lit Kd.string _ 9 ?hg (N := 53) ?hd (xs := ([x0_3] : List ByteArray)) (inner := [.string x0_3]) (ok := fun _ => True) (okp := fun _ => True) ?hr ?hp (fun _ hk => hk) trivial (Below.refl _ _) (Nat.le_refl _) (by simp) ?_; (case hd => rfl); (case hg => rfl); (case hr => first | (go_simp; done) | (go_simp; rfl)); (case hp => exact (Reps.one (show Kd.M Kd.string _ _ _ x0_3 [.string x0_3] from rfl) (Reps.none _ _))); intro v213 w35 ho36 hb hg_ hnew_; clear hg_ hnew_; (first | rw [← Ny212.out] at ho36 | (simp only [Int.reduceToNat] at ho36; rw [← Ny212.out] at ho36)); have n0_ := Aside0.mk (Kd.R_lower ho36 (below_size (by repeat (first | (with_reducible first | exact HB.out | apply below_alloc | apply pw_below_drewN | apply below_drew1) | exact HB.out)))); have n1_ := Aside0.mk (below_step (by repeat (first | (with_reducible first | exact HB.out | apply below_alloc | apply pw_below_drewN | apply below_drew1) | exact HB.out)) hb); clear HB; have HO214 := n0_; have HB := n1_; clear n0_ n1_; clear hb ho36; obtain ⟨Ao37, co37, eo37⟩ := Kd.R_slice HO214.out; subst eo37) | ((with_reducible refine gate_callee (f := 12) rfl ?_); refine goesL_ (some 54) rfl rfl Try.func12 (by kernel_rfl) rfl #[.slice Ao37 y212.length co37] rfl (by (try simp only [List.map_toArray, List.map_cons, List.map_nil]); first | done | rfl | (simp only [List.length_drop, List.length_take]; rfl)) ?_; (with_reducible refine (csum_Of.calls kj10 _ _ y212 t215 _ ?side1 ?side2 A32.out).mono ?_); (case side1 => repeat (first | exact (Kd.R_reads' HO214.out).2.2 | (with_reducible refine Kd.C_alloc ?_ _) | (with_reducible refine Kd.C_drewN ?_ _) | (with_reducible refine Kd.C_drew ?_))); (case side2 => exact (Kd.R_reads' HO214.out).2.1); rintro e w38 ⟨rfl, hb⟩; refine ⟨_, rfl, ?_⟩; have n0_ := Aside0.mk (Kd.R_below (by (with_reducible repeat (first | apply Kd.R_alloc | apply Kd.R_drewN | apply Kd.R_drew)); exact HO214.out) hb); have n1_ := Aside0.mk (below_step (by repeat (first | (with_reducible first | exact HB.out | apply below_alloc | apply pw_below_drewN | apply below_drew1) | exact HB.out)) hb); clear HO214; clear HB; have HO214 := n0_; have HB := n1_; clear n0_ n1_; (try clear hb); (try clear hb2); (try clear hk); (try clear hi)) | ((with_reducible refine gate_callee (f := 15) rfl ?_); refine goesL_ (some 58) rfl rfl Try.func15 (by kernel_rfl) rfl #[.int .i64 t215, .int .i64 (wrap64 ((wrap64 ((wrap64 (bt x0_3 x7_10)) * 256)) + (wrap64 (bt x0_3 (ji16))))), .int .i64 (Go.bits .and .i64 a2 65535)] rfl (by (try simp only [List.map_toArray, List.map_cons, List.map_nil]); first | done | (simp only [hji16]; rfl) | rfl | (simp only [List.length_drop, List.length_take]; rfl)) ?_; (with_reducible refine (csum_Patch.calls kj10 t215 (wrap64 ((wrap64 ((wrap64 (bt x0_3 x7_10)) * 256)) + (wrap64 (bt x0_3 (ji16))))) (Go.bits .and .i64 a2 65535) t216 _ A33.out).mono ?_); rintro e w' ⟨rfl, ⟨nd, rfl⟩⟩; refine ⟨_, rfl, ?_⟩) | ((with_reducible refine gate_dst (N := 60) rfl ?_); refine Kd.R_lit Kd.string _ 9 ?hg (N := 60) ?hd (xs := ([((x0_3.extract 0 (x7_10 : Int).toNat) ++ t211) ++ (x0_3.extract ((ji24) : Int).toNat x0_3.size)] : List ByteArray)) (inner := [.string (((x0_3.extract 0 (x7_10 : Int).toNat) ++ t211) ++ (x0_3.extract ((ji24) : Int).toNat x0_3.size))]) (ok := fun _ => True) (okp := fun _ => True) ?hr ?hp (fun _ hk => hk) trivial (Below.refl _ _) (Nat.le_refl _) (by simp) ?_; (case hd => rfl); (case hg => rfl); (case hr => first | (go_simp; done) | (go_simp; rfl)); (case hp => exact (Reps.one (show Kd.M Kd.string _ _ _ (((x0_3.extract 0 (x7_10 : Int).toNat) ++ t211) ++ (x0_3.extract ((ji24) : Int).toNat x0_3.size)) [.string (((x0_3.extract 0 (x7_10 : Int).toNat) ++ t211) ++ (x0_3.extract ((ji24) : Int).toNat x0_3.size))] from rfl) (Reps.none _ _))); intro v218 w39 ho40 hb hg_ hnew_; clear hg_ hnew_; (first | rw [← Ny217.out] at ho40 | (simp only [Int.reduceToNat] at ho40; rw [← Ny217.out] at ho40)); have n0_ := Aside0.mk (Kd.R_elder' (by (with_reducible repeat (first | apply Kd.R_alloc | apply Kd.R_drewN | apply Kd.R_drew)); exact HO214.out) (Kd.R_base ho40) hb); have n1_ := Aside0.mk (Kd.R_lower (Kd.R_new' ho40 (Kd.R_lt (by (with_reducible repeat (first | apply Kd.R_alloc | apply Kd.R_drewN | apply Kd.R_drew)); exact HO214.out))) (below_size (by repeat (first | (with_reducible first | exact HB.out | apply below_alloc | apply pw_below_drewN | apply below_drew1) | exact HB.out)))); have n2_ := Aside0.mk (below_step (by repeat (first | (with_reducible first | exact HB.out | apply below_alloc | apply pw_below_drewN | apply below_drew1) | exact HB.out)) hb); clear HO214; clear HB; have HO214 := n0_; have HO219 := n1_; have HB := n2_; clear n0_ n1_ n2_; clear hb ho40; obtain ⟨Ao41, co41, eo41⟩ := Kd.R_slice HO219.out; subst eo41) | ((with_reducible refine gate_callee (f := 12) rfl ?_); refine goesL_ (some 61) rfl rfl Try.func12 (by kernel_rfl) rfl #[.slice Ao41 y217.length co41] rfl (by (try simp only [List.map_toArray, List.map_cons, List.map_nil]); first | done | rfl | (simp only [List.length_drop, List.length_take]; rfl)) ?_; (with_reducible refine (csum_Of.calls kj10 _ _ y217 t220 _ ?side1 ?side2 A34.out).mono ?_); (case side1 => repeat (first | exact (Kd.R_reads' HO219.out).2.2 | (with_reducible refine Kd.C_alloc ?_ _) | (with_reducible refine Kd.C_drewN ?_ _) | (with_reducible refine Kd.C_drew ?_))); (case side2 => exact (Kd.R_reads' HO219.out).2.1); rintro e w42 ⟨rfl, hb⟩; refine ⟨_, rfl, ?_⟩; have n0_ := Aside0.mk (Kd.R_below (by (with_reducible repeat (first | apply Kd.R_alloc | apply Kd.R_drewN | apply Kd.R_drew)); exact HO214.out) hb); have n1_ := Aside0.mk (Kd.R_below (by (with_reducible repeat (first | apply Kd.R_alloc | apply Kd.R_drewN | apply Kd.R_drew)); exact HO219.out) hb); have n2_ := Aside0.mk (below_step (by repeat (first | (with_reducible first | exact HB.out | apply below_alloc | apply pw_below_drewN | apply below_drew1) | exact HB.out)) hb); clear HO214; clear HO219; clear HB; have HO214 := n0_; have HO219 := n1_; have HB := n2_; clear n0_ n1_ n2_; (try clear hb); (try clear hb2); (try clear hk); (try clear hi)))
                                go_meet
                                case rel => exact ⟨_, (t216), (t220), (by first | rfl | (simp; done) | (simp [*]; done)), (by first | rfl | (simp; done) | (simp [*]; done)), H', ⟨by have := HJ3.out; have := HJ10.out; first | omega | exact Nat.le_refl _⟩, ⟨by repeat (first | (with_reducible first | exact HB.out | apply below_alloc | apply pw_below_drewN | apply below_drew1) | exact HB.out)⟩⟩
                              case rest =>
                                clear HC28
                                try clear c1
                                try clear p1
                                try clear q1
                                try clear hx1
                                try clear c2
                                try clear p2
                                try clear c6
                                try clear c6b0
                                try clear c6b1
                                try clear p6
                                try clear c7
                                try clear c7b0
                                try clear c7b1
                                try clear c8
                                try clear c8b0
                                try clear c8b1
                                try clear c11
                                try clear c12
                                try clear c12b0
                                try clear c12b1
                                try clear c13
                                try clear c13b0
                                try clear c14
                                try clear c14b0
                                try clear c15
                                try clear p15
                                try clear q15
                                try clear hx15
                                try clear c17
                                try clear c17b0
                                try clear c18
                                try clear c18b0
                                try clear c19
                                try clear p19
                                try clear q19
                                try clear hx19
                                try clear c20
                                try clear c20b0
                                try clear c21
                                try clear c21b0
                                try clear c21b1
                                try clear c23
                                try clear c23b0
                                try clear c23b1
                                try clear c23b2
                                try clear c25
                                try clear c25b0
                                try clear c25b1
                                try clear c26
                                try clear c26b0
                                try clear c26b1
                                try clear c27
                                try clear c27b0
                                try clear c27b1
                                try clear c27b2
                                try clear p15
                                try clear p19
                                try clear p2
                                try clear p6
                                try clear q15
                                try clear q19
                                obtain ⟨kq, x10_27, x11_27, rfl, rfl, HA, HJ27, HB⟩ := hcut
                                cases kq with
                                | zero => exact absurd HA.out (by simp [gangwaylaw03_CsumPatches.j2])
                                | succ kj27 =>
                                  have H := HA.out
                                  clear HA
                                  simp only [gangwaylaw03_CsumPatches.j2] at H
                                  by_cases c43 : x10_27 = x11_27
                                  · rw [if_pos c43] at H
                                    have c43b0 : (x10_27 == x11_27) = true := beq_iff_eq.mpr c43
                                    have c43b1 : (x10_27 != x11_27) = false := bne_eq_false_iff_eq.mpr c43
                                    clear c43
                                    replace H := Option.bind_eq_some_iff.mp H
                                    obtain ⟨t221, A440, H⟩ := H
                                    replace H : (some t221) = some r := H
                                    have A44 := Aside0.mk A440
                                    clear A440
                                    obtain rfl := Option.some.inj H
                                    go_wp2_with (first | (go_at_call 11; (with_reducible refine (gangwaylaw03_fixed.calls kj27  t221 _ A44.out).mono ?_); rintro e w45 ⟨rfl, hb⟩; have n0_ := Aside0.mk (below_step (by repeat (first | (with_reducible first | exact HB.out | apply below_alloc | apply pw_below_drewN | apply below_drew1) | exact HB.out)) hb); clear HB; have HB := n0_; clear n0_; (try clear hb); (try clear hb2); (try clear hk); (try clear hi)))
                                    go_ret
                                    exact ⟨by first | rfl | (simp [errW_none, errW_some] <;> rfl) | (simp only [← hji16, ← hji24]; first | rfl | (simp [errW_none, errW_some] <;> rfl)) | (simp [*, errW_none, errW_some] <;> rfl), by repeat (first | (with_reducible first | exact HB.out | apply below_alloc | apply pw_below_drewN | apply below_drew1) | exact HB.out)⟩
                                  · rw [if_neg c43] at H
                                    have c43b0 : (x10_27 == x11_27) = false := beq_eq_false_iff_ne.mpr c43
                                    have c43b1 : (x10_27 != x11_27) = true := bne_iff_ne.mpr c43
                                    by_cases c46 : x10_27 = 0
                                    · rw [if_pos c46] at H
                                      have c46b0 : (x10_27 == 0) = true := beq_iff_eq.mpr c46
                                      have c46b1 : (x10_27 != 0) = false := bne_eq_false_iff_eq.mpr c46
                                      clear c46
                                      by_cases c47 : x11_27 = 65535
                                      · rw [if_pos c47] at H
                                        have c47b0 : (x11_27 == 65535) = true := beq_iff_eq.mpr c47
                                        have c47b1 : (x11_27 != 65535) = false := bne_eq_false_iff_eq.mpr c47
                                        clear c47
                                        replace H := Option.bind_eq_some_iff.mp H
                                        obtain ⟨t222, A480, H⟩ := H
                                        replace H : (some t222) = some r := H
                                        have A48 := Aside0.mk A480
                                        clear A480
                                        obtain rfl := Option.some.inj H
                                        go_wp2_with (first | (go_at_call 11; (with_reducible refine (gangwaylaw03_fixed.calls kj27  t222 _ A48.out).mono ?_); rintro e w49 ⟨rfl, hb⟩; have n0_ := Aside0.mk (below_step (by repeat (first | (with_reducible first | exact HB.out | apply below_alloc | apply pw_below_drewN | apply below_drew1) | exact HB.out)) hb); clear HB; have HB := n0_; clear n0_; (try clear hb); (try clear hb2); (try clear hk); (try clear hi)))
                                        go_ret
                                        exact ⟨by first | rfl | (simp [errW_none, errW_some] <;> rfl) | (simp only [← hji16, ← hji24]; first | rfl | (simp [errW_none, errW_some] <;> rfl)) | (simp [*, errW_none, errW_some] <;> rfl), by repeat (first | (with_reducible first | exact HB.out | apply below_alloc | apply pw_below_drewN | apply below_drew1) | exact HB.out)⟩
                                      · rw [if_neg c47] at H
                                        have c47b0 : (x11_27 == 65535) = false := beq_eq_false_iff_ne.mpr c47
                                        have c47b1 : (x11_27 != 65535) = true := bne_iff_ne.mpr c47
                                        by_cases c50 : x10_27 = 65535
                                        · rw [if_pos c50] at H
                                          have c50b0 : (x10_27 == 65535) = true := beq_iff_eq.mpr c50
                                          have c50b1 : (x10_27 != 65535) = false := bne_eq_false_iff_eq.mpr c50
                                          clear c50
                                          by_cases c51 : x11_27 = 0
                                          · rw [if_pos c51] at H
                                            have c51b0 : (x11_27 == 0) = true := beq_iff_eq.mpr c51
                                            have c51b1 : (x11_27 != 0) = false := bne_eq_false_iff_eq.mpr c51
                                            clear c51
                                            replace H := Option.bind_eq_some_iff.mp H
                                            obtain ⟨t223, A520, H⟩ := H
                                            replace H : (some t223) = some r := H
                                            have A52 := Aside0.mk A520
                                            clear A520
                                            obtain rfl := Option.some.inj H
                                            go_wp2_with (first | (go_at_call 11; (with_reducible refine (gangwaylaw03_fixed.calls kj27  t223 _ A52.out).mono ?_); rintro e w53 ⟨rfl, hb⟩; have n0_ := Aside0.mk (below_step (by repeat (first | (with_reducible first | exact HB.out | apply below_alloc | apply pw_below_drewN | apply below_drew1) | exact HB.out)) hb); clear HB; have HB := n0_; clear n0_; (try clear hb); (try clear hb2); (try clear hk); (try clear hi)))
                                            go_ret
                                            exact ⟨by first | rfl | (simp [errW_none, errW_some] <;> rfl) | (simp only [← hji16, ← hji24]; first | rfl | (simp [errW_none, errW_some] <;> rfl)) | (simp [*, errW_none, errW_some] <;> rfl), by repeat (first | (with_reducible first | exact HB.out | apply below_alloc | apply pw_below_drewN | apply below_drew1) | exact HB.out)⟩
                                          · rw [if_neg c51] at H
                                            have c51b0 : (x11_27 == 0) = false := beq_eq_false_iff_ne.mpr c51
                                            have c51b1 : (x11_27 != 0) = true := bne_iff_ne.mpr c51
                                            obtain rfl := Option.some.inj H
                                            go_wp2
                                            go_ret
                                            exact ⟨by first | rfl | (simp [errW_none, errW_some] <;> rfl) | (simp only [← hji16, ← hji24]; first | rfl | (simp [errW_none, errW_some] <;> rfl)) | (simp [*, errW_none, errW_some] <;> rfl), by repeat (first | (with_reducible first | exact HB.out | apply below_alloc | apply pw_below_drewN | apply below_drew1) | exact HB.out)⟩
                                        · rw [if_neg c50] at H
                                          have c50b0 : (x10_27 == 65535) = false := beq_eq_false_iff_ne.mpr c50
                                          have c50b1 : (x10_27 != 65535) = true := bne_iff_ne.mpr c50
                                          obtain rfl := Option.some.inj H
                                          go_wp2
                                          go_ret
                                          exact ⟨by first | rfl | (simp [errW_none, errW_some] <;> rfl) | (simp only [← hji16, ← hji24]; first | rfl | (simp [errW_none, errW_some] <;> rfl)) | (simp [*, errW_none, errW_some] <;> rfl), by repeat (first | (with_reducible first | exact HB.out | apply below_alloc | apply pw_below_drewN | apply below_drew1) | exact HB.out)⟩
                                    · rw [if_neg c46] at H
                                      have c46b0 : (x10_27 == 0) = false := beq_eq_false_iff_ne.mpr c46
                                      have c46b1 : (x10_27 != 0) = true := bne_iff_ne.mpr c46
                                      by_cases c54 : x10_27 = 65535
                                      · rw [if_pos c54] at H
                                        have c54b0 : (x10_27 == 65535) = true := beq_iff_eq.mpr c54
                                        have c54b1 : (x10_27 != 65535) = false := bne_eq_false_iff_eq.mpr c54
                                        clear c54
                                        by_cases c55 : x11_27 = 0
                                        · rw [if_pos c55] at H
                                          have c55b0 : (x11_27 == 0) = true := beq_iff_eq.mpr c55
                                          have c55b1 : (x11_27 != 0) = false := bne_eq_false_iff_eq.mpr c55
                                          clear c55
                                          replace H := Option.bind_eq_some_iff.mp H
                                          obtain ⟨t224, A560, H⟩ := H
                                          replace H : (some t224) = some r := H
                                          have A56 := Aside0.mk A560
                                          clear A560
                                          obtain rfl := Option.some.inj H
                                          go_wp2_with (first | (go_at_call 11; (with_reducible refine (gangwaylaw03_fixed.calls kj27  t224 _ A56.out).mono ?_); rintro e w57 ⟨rfl, hb⟩; have n0_ := Aside0.mk (below_step (by repeat (first | (with_reducible first | exact HB.out | apply below_alloc | apply pw_below_drewN | apply below_drew1) | exact HB.out)) hb); clear HB; have HB := n0_; clear n0_; (try clear hb); (try clear hb2); (try clear hk); (try clear hi)))
                                          go_ret
                                          exact ⟨by first | rfl | (simp [errW_none, errW_some] <;> rfl) | (simp only [← hji16, ← hji24]; first | rfl | (simp [errW_none, errW_some] <;> rfl)) | (simp [*, errW_none, errW_some] <;> rfl), by repeat (first | (with_reducible first | exact HB.out | apply below_alloc | apply pw_below_drewN | apply below_drew1) | exact HB.out)⟩
                                        · rw [if_neg c55] at H
                                          have c55b0 : (x11_27 == 0) = false := beq_eq_false_iff_ne.mpr c55
                                          have c55b1 : (x11_27 != 0) = true := bne_iff_ne.mpr c55
                                          obtain rfl := Option.some.inj H
                                          go_wp2
                                          go_ret
                                          exact ⟨by first | rfl | (simp [errW_none, errW_some] <;> rfl) | (simp only [← hji16, ← hji24]; first | rfl | (simp [errW_none, errW_some] <;> rfl)) | (simp [*, errW_none, errW_some] <;> rfl), by repeat (first | (with_reducible first | exact HB.out | apply below_alloc | apply pw_below_drewN | apply below_drew1) | exact HB.out)⟩
                                      · rw [if_neg c54] at H
                                        have c54b0 : (x10_27 == 65535) = false := beq_eq_false_iff_ne.mpr c54
                                        have c54b1 : (x10_27 != 65535) = true := bne_iff_ne.mpr c54
                                        obtain rfl := Option.some.inj H
                                        go_wp2
                                        go_ret
                                        exact ⟨by first | rfl | (simp [errW_none, errW_some] <;> rfl) | (simp only [← hji16, ← hji24]; first | rfl | (simp [errW_none, errW_some] <;> rfl)) | (simp [*, errW_none, errW_some] <;> rfl), by repeat (first | (with_reducible first | exact HB.out | apply below_alloc | apply pw_below_drewN | apply below_drew1) | exact HB.out)⟩
                            · rw [if_neg c27] at H
                              exact absurd H (by simp)
                          · rw [if_neg c26] at H
                            exact absurd H (by simp)
                        · rw [if_neg c25] at H
                          exact absurd H (by simp)
                      · rw [if_neg c23] at H
                        exact absurd H (by simp)
                    · rw [if_neg c21] at H
                      exact absurd H (by simp)
                  · rw [if_neg c18] at H
                    exact absurd H (by simp)
                · rw [if_neg c17] at H
                  exact absurd H (by simp)
              · rw [if_neg c14] at H
                exact absurd H (by simp)
            · rw [if_neg c13] at H
              exact absurd H (by simp)

/-- THE ONE PURE STATEMENT of gangwaylaw03_CsumPatches: yours. -/
def gangwaylaw03_CsumPatches.Pure : Prop := ∀ (a0 : ByteArray) (a1 : Int) (a2 : Int), a0.size ≤ 140737488351232 → (Lit.int .i64 a1).wf = true → (Lit.int .i64 a2).wf = true → ∃ k, gangwaylaw03_CsumPatches.f k a0 a1 a2 = some true
theorem gangwaylaw03_CsumPatches.walk (P : gangwaylaw03_CsumPatches.Pure) (a0 : ByteArray) (a1 : Int) (a2 : Int) (w : World) (w0 : a0.size ≤ 140737488351232) (w1 : (Lit.int .i64 a1).wf = true) (w2 : (Lit.int .i64 a2).wf = true) :
    Calls Try.prog 6 #[.string a0, .int .i64 a1, .int .i64 a2] w fun e w' => e = .returned (.bool true) ∧ Below w.heap.size w w' := by
  obtain ⟨k, h⟩ := P a0 a1 a2 w0 w1 w2
  refine (gangwaylaw03_CsumPatches.calls k a0 a1 a2 true w h).mono ?_
  rintro e w' ⟨rfl, hd⟩
  exact ⟨rfl, hd⟩

end Go.Proofs.Ytgfgebngmjchbaa.P
