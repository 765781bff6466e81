-- Written by wip/hprint.py (this session's program) through the kit's print program; hand contracts are marked 'by hand'.
import Derived.Test.YtgfgebngmjchbaaPx0
import Derived.Test.YtgfgebngmjchbaaPx4
import Derived.Test.YtgfgebngmjchbaaPx6
import Derived.Test.YtgfgebngmjchbaaPx9
namespace Go.Proofs.Ytgfgebngmjchbaa.P
open Go.RowKit Go.Proofs.YtgfgebngmjchbaaW.PrintWords Go.Proofs.YtgfgebngmjchbaaW.PrintLast Go.Proofs.YtgfgebngmjchbaaW.PrintMore
attribute [local go_sem] max2_int min2_int max_two min_two max_three min_three max_four min_four   -- for this text's walks alone
set_option linter.unusedVariables false
set_option linter.unusedSimpArgs false

/-! ### gangwaylaw03_CsumPseudo: function 9 -/
def gangwaylaw03_CsumPseudo.j0 : Nat → Int → Int → ByteArray → Option (Bool)
  | 0, _, _, _ => none
  | k + 1, x0, x1, x2 => (csum_Head.f k x0 x1 17 (x2.size : Int)).bind fun t271 => ((csum_Head.f k x1 x0 17 (x2.size : Int)).bind fun t272 => (if (t271.size : Int) = 12 then (if 0 ≤ 4 then (if 4 ≤ (t271.size : Int) then ((gangwayref01_Bytes.f k (IntKind.u64.wrap (x0)) 4).bind fun t273 => (if (t271.extract 0 4).toList = t273.toList then (if 4 ≤ 8 then (if 8 ≤ (t271.size : Int) then (if 4 ≤ (t272.size : Int) then (if (t271.extract 4 8).toList = (t272.extract 0 4).toList then ((csum_Of.f k (([t271, x2] : List ByteArray))).bind fun t277 => ((csum_Of.f k (([t272, x2] : List ByteArray))).bind fun t281 => (if t277 = t281 then ((gangwaylaw03_fixed.f k).bind fun t282 => (some t282)) else (some false)))) else (some false)) else (none)) else (none)) else (none)) else (some false))) else (none)) else (none)) else (some false)))
def gangwaylaw03_CsumPseudo.f (k : Nat) (a0 : Int) (a1 : Int) (a2 : ByteArray) : Option (Bool) := if 0 ≤ (mn (a2.size : Int) 600) then (if (mn (a2.size : Int) 600) ≤ (a2.size : Int) then (gangwaylaw03_CsumPseudo.j0 k a0 a1 (a2.extract 0 ((mn (a2.size : Int) 600) : Int).toNat)) else (none)) else (none)
theorem gangwaylaw03_CsumPseudo.mono_l : ∀ k, (∀ y0 y1 y2, LeO (gangwaylaw03_CsumPseudo.j0 k y0 y1 y2) (gangwaylaw03_CsumPseudo.j0 (k + 1) y0 y1 y2))
  | 0 => fun _ _ _ r h => by simp [gangwaylaw03_CsumPseudo.j0] at h
  | k + 1 => by
    have ih0 := gangwaylaw03_CsumPseudo.mono_l k
    · intro y0 y1 y2
      unfold gangwaylaw03_CsumPseudo.j0
      repeat' first
      | (with_reducible exact ih0 _ _ _)
      | (with_reducible exact csum_Head.mono _ _ _ _ _)
      | (with_reducible exact csum_Of.mono _ _)
      | (with_reducible exact gangwaylaw03_fixed.mono _)
      | (with_reducible exact gangwayref01_Bytes.mono _ _ _)
      | (with_reducible exact LeO.refl _)
      | (with_reducible exact LeO.none _)
      | (with_reducible refine LeO.ite ?_ ?_)
      | (with_reducible refine LeO.bind ?_ (fun _ => ?_))
      | exact ih0 _ _ _
      | exact csum_Head.mono _ _ _ _ _
      | exact csum_Of.mono _ _
      | exact gangwaylaw03_fixed.mono _
      | exact gangwayref01_Bytes.mono _ _ _
      | exact LeO.none _
      | refine LeO.ite ?_ ?_
      | refine LeO.bind ?_ (fun _ => ?_)
theorem gangwaylaw03_CsumPseudo.mono : ∀ a0 a1 a2 k, LeO (gangwaylaw03_CsumPseudo.f k a0 a1 a2) (gangwaylaw03_CsumPseudo.f (k + 1) a0 a1 a2) := by
  intro a0 a1 a2 k
  have ih0 := gangwaylaw03_CsumPseudo.mono_l k
  unfold gangwaylaw03_CsumPseudo.f
  repeat' first
      | (with_reducible exact ih0 _ _ _)
      | (with_reducible exact csum_Head.mono _ _ _ _ _)
      | (with_reducible exact csum_Of.mono _ _)
      | (with_reducible exact gangwaylaw03_fixed.mono _)
      | (with_reducible exact gangwayref01_Bytes.mono _ _ _)
      | (with_reducible exact LeO.refl _)
      | (with_reducible exact LeO.none _)
      | (with_reducible refine LeO.ite ?_ ?_)
      | (with_reducible refine LeO.bind ?_ (fun _ => ?_))
      | exact ih0 _ _ _
      | exact csum_Head.mono _ _ _ _ _
      | exact csum_Of.mono _ _
      | exact gangwaylaw03_fixed.mono _
      | exact gangwayref01_Bytes.mono _ _ _
      | exact LeO.none _
      | refine LeO.ite ?_ ?_
      | refine LeO.bind ?_ (fun _ => ?_)
def gangwaylaw03_CsumPseudo.T3 : Bool × List (List Nat × List Nat) := (true, [([], []), ([0], [0]), ([1], [1]), ([2], [2]), ([3], [3]), ([4, 3], [3, 4]), ([3], [3]), ([6, 3], [3, 6]), ([7, 3, 3], [3, 7]), ([5, 8, 3], [3, 5, 8]), ([3, 9], [3, 9]), ([10, 8], [10]), ([11], [11]), ([12, 11], [11, 12]), ([11], [11]), ([14, 11], [11, 14]), ([13, 15, 11], [11, 13, 15]), ([11, 16], [11, 16]), ([17, 11], [17]), ([18], [18]), ([18], [18]), ([19, 20, 18], [18, 19, 20]), ([21, 18, 18], [18, 21]), ([18], [18]), ([18], [18]), ([23, 24, 18], [18, 23, 24]), ([25, 22, 18], [18, 25]), ([22, 26, 18], [18, 22, 26]), ([18, 27], [18, 27]), ([28, 26], [28]), ([29, 29], [29]), ([29, 30], [29, 30]), ([31, 30, 0, 1, 2, 3, 4, 5, 6, 7, 8, 9, 10, 11, 12, 13, 14, 15, 16, 17, 18, 19, 20, 21, 22, 23, 24, 25, 26, 27, 28, 29, 30, 31], [31])])
def gangwaylaw03_CsumPseudo.B3 : List Nat := [0, 1, 3, 7, 15, 31, 15, 79, 207, 511, 1023, 2047, 4095, 8191, 4095, 20479, 65535, 131071, 262143, 524287, 524287, 2097151, 4194303, 524287, 524287, 25690111, 67108863, 134217727, 268435455, 536870911, 1073741823, 2147483647, 4294967295]
theorem gangwaylaw03_CsumPseudo.tab3 : rtab .any (opsOf Try.f9 3) = gangwaylaw03_CsumPseudo.T3 := by kernel_rfl
theorem gangwaylaw03_CsumPseudo.bits3 : waitsOk gangwaylaw03_CsumPseudo.T3.2 gangwaylaw03_CsumPseudo.B3 = true := by kernel_rfl
set_option maxHeartbeats 8000000 in
set_option maxRecDepth 100000 in
theorem gangwaylaw03_CsumPseudo.calls (k : Nat) (a0 : Int) (a1 : Int) (a2 : ByteArray) (r : Bool) (w : World) (h : gangwaylaw03_CsumPseudo.f k a0 a1 a2 = some r) :
    Calls Try.prog 9 #[.int .u32 a0, .int .u32 a1, .string a2] w fun e w' => e = .returned (.bool r) ∧ Below w.heap.size w w' := by
  have HB := Aside0.mk (Below.refl w.heap.size w)
  have H : (if 0 ≤ (mn (a2.size : Int) 600) then (if (mn (a2.size : Int) 600) ≤ (a2.size : Int) then (gangwaylaw03_CsumPseudo.j0 k a0 a1 (a2.extract 0 ((mn (a2.size : Int) 600) : Int).toNat)) else (none)) else (none)) = some r := h
  clear h
  have HC4 := Aside0.mk H
  clear H
  go_enter Try.func9, Try.ntmps9
  go_upto_region 1 with (fail)
  go_cut [2] (fun v2 wc => ∃ (kq : Nat) (x2_3 : ByteArray), v2 = .string x2_3 ∧ Aside0 (gangwaylaw03_CsumPseudo.j0 kq a0 a1 x2_3 = some r) ∧ Aside0 (kq ≤ k) ∧ Aside0 (Below w.heap.size w wc))
  case first =>
    have H := HC4.out
    clear HC4
    obtain ⟨ji5, hji5⟩ : ∃ j_ : Int, (mn (a2.size : Int) 600) = j_ := ⟨_, rfl⟩
    replace H : (if 0 ≤ (ji5) then (if (ji5) ≤ (a2.size : Int) then (gangwaylaw03_CsumPseudo.j0 k a0 a1 (a2.extract 0 ((ji5) : Int).toNat)) else (none)) else (none)) = some r := by first | (rw [hji5] at H; exact H) | (simp only [hji5] at H ⊢; exact H)
    (try (have hji5h : ji5 ≤ 600 := by (rw [← hji5]; unfold mn; (repeat' split) <;> omega)))
    (try (have hji5g : ji5 ≤ 64 := by omega))
    (try (have hji5l : 0 ≤ ji5 := by (rw [← hji5]; unfold mn; (repeat' split) <;> omega)))
    (try (have hji5m : 0 ≤ ji5 := by omega))
    have hji5_ : (if 600 < (a2.size : Int) then 600 else (a2.size : Int)) = ji5 := hji5
    by_cases c6 : 0 ≤ (ji5)
    · rw [if_pos c6] at H
      have c6b0 := eq_true c6
      have c6b1 : decide (0 ≤ (ji5)) = true := decide_eq_true c6
      clear c6
      by_cases c7 : (ji5) ≤ (a2.size : Int)
      · rw [if_pos c7] at H
        have c7b0 := eq_true c7
        have c7b1 : decide ((ji5) ≤ (a2.size : Int)) = true := decide_eq_true c7
        clear c7
        have H' := Aside0.mk H
        clear H
        go_wp2
        go_meet
        case rel => exact ⟨_, (a2.extract 0 ((ji5) : Int).toNat), (by first | rfl | (simp; done) | (simp only [← hji5] <;> (first | rfl | simp)) | (simp [*]; done)), H', ⟨by first | omega | exact Nat.le_refl _⟩, ⟨by repeat (first | (with_reducible first | exact HB.out | apply below_alloc | apply pw_below_drewN | apply below_drew1) | exact HB.out)⟩⟩
      · rw [if_neg c7] at H
        exact absurd H (by simp)
    · rw [if_neg c6] at H
      exact absurd H (by simp)
  case rest =>
    clear HC4
    try clear p2
    try clear c6
    try clear c6b0
    try clear c6b1
    try clear c7
    try clear c7b0
    try clear c7b1
    obtain ⟨kq, x2_3, rfl, HA, HJ3, HB⟩ := hcut
    cases kq with
    | zero => exact absurd HA.out (by simp [gangwaylaw03_CsumPseudo.j0])
    | succ kj3 =>
      have H := HA.out
      clear HA
      simp only [gangwaylaw03_CsumPseudo.j0] at H
      replace H := Option.bind_eq_some_iff.mp H
      obtain ⟨t271, A80, H⟩ := H
      replace H : ((csum_Head.f kj3 a1 a0 17 (x2_3.size : Int)).bind fun t272 => (if (t271.size : Int) = 12 then (if 0 ≤ 4 then (if 4 ≤ (t271.size : Int) then ((gangwayref01_Bytes.f kj3 (IntKind.u64.wrap (a0)) 4).bind fun t273 => (if (t271.extract 0 4).toList = t273.toList then (if 4 ≤ 8 then (if 8 ≤ (t271.size : Int) then (if 4 ≤ (t272.size : Int) then (if (t271.extract 4 8).toList = (t272.extract 0 4).toList then ((csum_Of.f kj3 (([t271, x2_3] : List ByteArray))).bind fun t277 => ((csum_Of.f kj3 (([t272, x2_3] : List ByteArray))).bind fun t281 => (if t277 = t281 then ((gangwaylaw03_fixed.f kj3).bind fun t282 => (some t282)) else (some false)))) else (some false)) else (none)) else (none)) else (none)) else (some false))) else (none)) else (none)) else (some false))) = some r := H
      have A8 := Aside0.mk A80
      clear A80
      replace H := Option.bind_eq_some_iff.mp H
      obtain ⟨t272, A90, H⟩ := H
      replace H : (if (t271.size : Int) = 12 then (if 0 ≤ 4 then (if 4 ≤ (t271.size : Int) then ((gangwayref01_Bytes.f kj3 (IntKind.u64.wrap (a0)) 4).bind fun t273 => (if (t271.extract 0 4).toList = t273.toList then (if 4 ≤ 8 then (if 8 ≤ (t271.size : Int) then (if 4 ≤ (t272.size : Int) then (if (t271.extract 4 8).toList = (t272.extract 0 4).toList then ((csum_Of.f kj3 (([t271, x2_3] : List ByteArray))).bind fun t277 => ((csum_Of.f kj3 (([t272, x2_3] : List ByteArray))).bind fun t281 => (if t277 = t281 then ((gangwaylaw03_fixed.f kj3).bind fun t282 => (some t282)) else (some false)))) else (some false)) else (none)) else (none)) else (none)) else (some false))) else (none)) else (none)) else (some false)) = some r := H
      have A9 := Aside0.mk A90
      clear A90
      by_cases c10 : (t271.size : Int) = 12
      · rw [if_pos c10] at H
        have c10b0 : ((t271.size : Int) == 12) = true := beq_iff_eq.mpr c10
        have c10b1 : ((t271.size : Int) != 12) = false := bne_eq_false_iff_eq.mpr c10
        clear c10
        by_cases c11 : 0 ≤ 4
        · rw [if_pos c11] at H
          have c11b0 := eq_true c11
          have c11b1 : decide (0 ≤ 4) = true := decide_eq_true c11
          clear c11
          by_cases c12 : 4 ≤ (t271.size : Int)
          · rw [if_pos c12] at H
            have c12b0 := eq_true c12
            have c12b1 : decide (4 ≤ (t271.size : Int)) = true := decide_eq_true c12
            clear c12
            replace H := Option.bind_eq_some_iff.mp H
            obtain ⟨t273, A130, H⟩ := H
            replace H : (if (t271.extract 0 4).toList = t273.toList then (if 4 ≤ 8 then (if 8 ≤ (t271.size : Int) then (if 4 ≤ (t272.size : Int) then (if (t271.extract 4 8).toList = (t272.extract 0 4).toList then ((csum_Of.f kj3 (([t271, x2_3] : List ByteArray))).bind fun t277 => ((csum_Of.f kj3 (([t272, x2_3] : List ByteArray))).bind fun t281 => (if t277 = t281 then ((gangwaylaw03_fixed.f kj3).bind fun t282 => (some t282)) else (some false)))) else (some false)) else (none)) else (none)) else (none)) else (some false)) = some r := H
            have A13 := Aside0.mk A130
            clear A130
            by_cases c14 : (t271.extract 0 4).toList = t273.toList
            · rw [if_pos c14] at H
              have c14b0 : ((t271.extract 0 4).toList == t273.toList) = true := beq_iff_eq.mpr c14
              have c14b1 : ((t271.extract 0 4).toList != t273.toList) = false := bne_eq_false_iff_eq.mpr c14
              clear c14
              by_cases c15 : 4 ≤ 8
              · rw [if_pos c15] at H
                have c15b0 := eq_true c15
                have c15b1 : decide (4 ≤ 8) = true := decide_eq_true c15
                clear c15
                by_cases c16 : 8 ≤ (t271.size : Int)
                · rw [if_pos c16] at H
                  have c16b0 := eq_true c16
                  have c16b1 : decide (8 ≤ (t271.size : Int)) = true := decide_eq_true c16
                  clear c16
                  have c17b0 := eq_true (of_decide_eq_true (by first | (with_reducible assumption) | assumption) : 0 ≤ 4)
                  by_cases c18 : 4 ≤ (t272.size : Int)
                  · rw [if_pos c18] at H
                    have c18b0 := eq_true c18
                    have c18b1 : decide (4 ≤ (t272.size : Int)) = true := decide_eq_true c18
                    clear c18
                    by_cases c19 : (t271.extract 4 8).toList = (t272.extract 0 4).toList
                    · rw [if_pos c19] at H
                      have c19b0 : ((t271.extract 4 8).toList == (t272.extract 0 4).toList) = true := beq_iff_eq.mpr c19
                      have c19b1 : ((t271.extract 4 8).toList != (t272.extract 0 4).toList) = false := bne_eq_false_iff_eq.mpr c19
                      clear c19
                      obtain ⟨y274, hy274⟩ : ∃ y_ : List ByteArray, y_ = (([t271, x2_3] : List ByteArray)) := ⟨_, rfl⟩
                      replace H : ((csum_Of.f kj3 y274).bind fun t277 => ((csum_Of.f kj3 (([t272, x2_3] : List ByteArray))).bind fun t281 => (if t277 = t281 then ((gangwaylaw03_fixed.f kj3).bind fun t282 => (some t282)) else (some false)))) = some r := by first | (rw [hy274]; with_reducible exact H) | (have H2_ := (Option.bind_some _ _).symm.trans H; rw [hy274]; with_reducible exact H2_) | (have H2_ := (Option.bind_some _ _).symm.trans H; with_reducible exact H2_) | with_reducible exact H | (rw [hy274]; exact H) | exact H
                      have Ny274 := Aside0.mk hy274
                      clear hy274
                      replace H := Option.bind_eq_some_iff.mp H
                      obtain ⟨t277, A200, H⟩ := H
                      replace H : ((csum_Of.f kj3 (([t272, x2_3] : List ByteArray))).bind fun t281 => (if t277 = t281 then ((gangwaylaw03_fixed.f kj3).bind fun t282 => (some t282)) else (some false))) = some r := H
                      have A20 := Aside0.mk A200
                      clear A200
                      obtain ⟨y278, hy278⟩ : ∃ y_ : List ByteArray, y_ = (([t272, x2_3] : List ByteArray)) := ⟨_, rfl⟩
                      replace H : ((csum_Of.f kj3 y278).bind fun t281 => (if t277 = t281 then ((gangwaylaw03_fixed.f kj3).bind fun t282 => (some t282)) else (some false))) = some r := by first | (rw [hy278]; with_reducible exact H) | (have H2_ := (Option.bind_some _ _).symm.trans H; rw [hy278]; with_reducible exact H2_) | (have H2_ := (Option.bind_some _ _).symm.trans H; with_reducible exact H2_) | with_reducible exact H | (rw [hy278]; exact H) | exact H
                      have Ny278 := Aside0.mk hy278
                      clear hy278
                      replace H := Option.bind_eq_some_iff.mp H
                      obtain ⟨t281, A210, H⟩ := H
                      replace H : (if t277 = t281 then ((gangwaylaw03_fixed.f kj3).bind fun t282 => (some t282)) else (some false)) = some r := H
                      have A21 := Aside0.mk A210
                      clear A210
                      by_cases c22 : t277 = t281
                      · rw [if_pos c22] at H
                        have c22b0 : (t277 == t281) = true := beq_iff_eq.mpr c22
                        have c22b1 : (t277 != t281) = false := bne_eq_false_iff_eq.mpr c22
                        clear c22
                        replace H := Option.bind_eq_some_iff.mp H
                        obtain ⟨t282, A230, H⟩ := H
                        replace H : (some t282) = some r := H
                        have A23 := Aside0.mk A230
                        clear A230
                        obtain rfl := Option.some.inj H
                        try go_wp2_with (first | ((with_reducible refine gate_callee (f := 17) rfl ?_); refine goesL_ (some 18) rfl rfl Try.func17 (by kernel_rfl) rfl #[.int .u32 a0, .int .u32 a1, .int .i64 17, .int .i64 (x2_3.size : Int)] rfl (by (try simp only [List.map_toArray, List.map_cons, List.map_nil]); first | done | rfl | (simp only [List.length_drop, List.length_take]; rfl)) ?_; (with_reducible refine (csum_Head.calls kj3 a0 a1 17 (x2_3.size : Int) t271 _ A8.out).mono ?_); rintro e w24 ⟨rfl, hb⟩; refine ⟨_, rfl, ?_⟩; have n0_ := Aside0.mk (below_step (by repeat (first | (with_reducible first | exact HB.out | apply below_alloc | apply pw_below_drewN | apply below_drew1) | exact HB.out)) hb); clear HB; have HB := n0_; clear n0_; (try clear hb); (try clear hb2); (try clear hk); (try clear hi)) | ((with_reducible refine gate_callee (f := 17) rfl ?_); refine goesL_ (some 23) rfl rfl Try.func17 (by kernel_rfl) rfl #[.int .u32 a1, .int .u32 a0, .int .i64 17, .int .i64 (x2_3.size : Int)] rfl (by (try simp only [List.map_toArray, List.map_cons, List.map_nil]); first | done | rfl | (simp only [List.length_drop, List.length_take]; rfl)) ?_; (with_reducible refine (csum_Head.calls kj3 a1 a0 17 (x2_3.size : Int) t272 _ A9.out).mono ?_); rintro e w25 ⟨rfl, hb⟩; refine ⟨_, rfl, ?_⟩; have n0_ := Aside0.mk (below_step (by repeat (first | (with_reducible first | exact HB.out | apply below_alloc | apply pw_below_drewN | apply below_drew1) | exact HB.out)) hb); clear HB; have HB := n0_; clear n0_; (try clear hb); (try clear hb2); (try clear hk); (try clear hi)))
                        have n0_ := Aside0.mk (below_drew1 HB.out)
                        clear HB
                        have HB := n0_
                        clear n0_
                        refine start_ (n := 33) (S := fun w' => True) (ds := []) #[false, false, false, false, false, false, false, false, false, false, false, false, false, false, false, false, false, false, false, false, false, false, false, false, false, false, false, false, false, false, false, false, false] (by kernel_rfl) rfl rfl trivial (fun hHeld => ?_); refine with_tabW gangwaylaw03_CsumPseudo.tab3 gangwaylaw03_CsumPseudo.bits3 (fun HT_ HW_ => ?_)
                        generalize w25.drew = w26 at HB hHeld ⊢
                        refine pure_ (i := 0) (N := some 24) (v := ?_) (a' := ?_) #[true, false, false, false, false, false, false, false, false, false, false, false, false, false, false, false, false, false, false, false, false, false, false, false, false, false, false, false, false, false, false, false, false] rfl rfl (any_of HT_.out (by kernel_rfl)) (fun _ _ _ h => h) (Or.inl ⟨by rfl, ?_⟩) ?_ ?_
                        rotate_left
                        · intro w'
                          go_simp
                          first | with_reducible rfl | (rw [if_neg (by (try simp only [decide_eq_true_eq, ByteArray.size_append, ByteArray.size_extract, eq_iff_iff, iff_true, iff_false, Nat.not_lt] at *); omega)]; try with_reducible rfl)
                        rotate_left
                        · simp only [Act.put, List.setIfInBounds_toArray, List.set_cons_zero, List.set_cons_succ, i64_w, i32_w]
                          rfl
                        refine inv_at [1, 2, 3, 4, 5, 6, 7, 8, 9, 10, 11, 12, 13, 14, 15, 16, 17, 18, 19, 20, 21, 22, 23, 24, 25, 26, 27, 28, 29, 30, 31, 32] (fun a0_ b a w' => ∃ (v275 : Value) (v279 : Value), a = putSel a0_ b [(1, 25, .int .i64 (t271.size : Int)), (2, 26, .bool ((t271.size : Int) == 12)), (3, 27, .bool ((t271.size : Int) == 12)), (4, 28, .string t271), (5, 29, .string (t271.extract 0 4)), (6, 30, .int .u32 a0), (7, 31, .int .u64 (IntKind.u64.wrap (a0))), (8, 32, .string t273), (9, 33, .bool ((t271.extract 0 4).toList == t273.toList)), (10, 34, .bool ((t271.extract 0 4).toList == t273.toList)), (11, 35, .bool ((t271.extract 0 4).toList == t273.toList)), (12, 36, .string t271), (13, 37, .string (t271.extract 4 8)), (14, 38, .string t272), (15, 39, .string (t272.extract 0 4)), (16, 40, .bool ((t271.extract 4 8).toList == (t272.extract 0 4).toList)), (17, 41, .bool ((t271.extract 4 8).toList == (t272.extract 0 4).toList)), (18, 42, .bool ((t271.extract 4 8).toList == (t272.extract 0 4).toList)), (19, 43, .string t271), (20, 44, .string x2_3), (21, 45, v275), (22, 46, .int .i64 t277), (23, 47, .string t272), (24, 48, .string x2_3), (25, 49, v279), (26, 50, .int .i64 t281), (27, 51, .bool (t277 == t281)), (28, 52, .bool (t277 == t281)), (29, 53, .bool (t277 == t281)), (30, 54, .bool t282), (31, 55, .bool t282), (32, 6, .bool t282)] ∧ (Below w.heap.size w w') ∧ (b 21 = true → Kd.R Kd.string 9 w' w.heap.size (fun _ => True) v275 y274) ∧ (b 25 = true → Kd.R Kd.string 9 w' w.heap.size (fun _ => True) v279 y278)) HT_.out HW_.out (by kernel_rfl) (by kernel_rfl) ?_ ?_ ?_
                        · exact ⟨.bool false, .bool false, by simp only [putSel, Bool.false_eq_true, if_false], HB.out, fun h_ => absurd h_ (by decide), fun h_ => absurd h_ (by decide)⟩
                        · skip
                          clear HB
                          refine steps_cons ?_ ?_
                          · rintro b a w' ⟨v275, v279, ha, Q_HB, Q_HO276, Q_HO280⟩ hb_ hon hoff
                            refine ⟨_, rfl, fun K hK => ?_⟩
                            have e24 : a.tmps[24]? = some (.string t271) := by rw [ha]; exact (putSel_off rfl).trans rfl
                            replace ha := Aside0.mk ha
                            have HB := Aside0.mk Q_HB
                            refine value_ (w1 := w') (v := .int .i64 (t271.size : Int)) (by rfl) rfl ?_ ?_
                            · go_simp
                              (try simp only [i64_w])
                              try rfl
                            refine hK.out _ _ ⟨v275, v279, (by rw [ha.out]; exact putSel_upk 0 hb_ rfl rfl rfl), Q_HB, fun h0_ => absurd ((hoff 21 (by kernel_rfl)).symm.trans h0_) (by decide), fun h0_ => absurd ((hoff 25 (by kernel_rfl)).symm.trans h0_) (by decide)⟩
                          refine steps_cons ?_ ?_
                          · rintro b a w' ⟨v275, v279, ha, Q_HB, Q_HO276, Q_HO280⟩ hb_ hon hoff
                            refine ⟨_, rfl, fun K hK => ?_⟩
                            have e25 : a.tmps[25]? = some (.int .i64 (t271.size : Int)) := by rw [ha]; exact putSel_on (e := (1, 25, .int .i64 (t271.size : Int))) 0 rfl rfl (hon 1 (by kernel_rfl)) rfl
                            replace ha := Aside0.mk ha
                            have HB := Aside0.mk Q_HB
                            refine value_ (w1 := w') (v := .bool ((t271.size : Int) == 12)) (by rfl) rfl ?_ ?_
                            · go_simp
                              (try simp only [i64_w])
                              try rfl
                            refine hK.out _ _ ⟨v275, v279, (by rw [ha.out]; exact putSel_upk 1 hb_ rfl rfl rfl), Q_HB, fun h0_ => absurd ((hoff 21 (by kernel_rfl)).symm.trans h0_) (by decide), fun h0_ => absurd ((hoff 25 (by kernel_rfl)).symm.trans h0_) (by decide)⟩
                          refine steps_cons ?_ ?_
                          · rintro b a w' ⟨v275, v279, ha, Q_HB, Q_HO276, Q_HO280⟩ hb_ hon hoff
                            refine ⟨_, rfl, fun K hK => ?_⟩
                            have e26 : a.tmps[26]? = some (.bool ((t271.size : Int) == 12)) := by rw [ha]; exact putSel_on (e := (2, 26, .bool ((t271.size : Int) == 12))) 1 rfl rfl (hon 2 (by kernel_rfl)) rfl
                            replace ha := Aside0.mk ha
                            have HB := Aside0.mk Q_HB
                            refine value_ (w1 := w') (v := .bool ((t271.size : Int) == 12)) (by rfl) rfl ?_ ?_
                            · go_simp
                              (try simp only [i64_w])
                              try rfl
                            refine hK.out _ _ ⟨v275, v279, (by rw [ha.out]; exact putSel_upk 2 hb_ rfl rfl rfl), Q_HB, fun h0_ => absurd ((hoff 21 (by kernel_rfl)).symm.trans h0_) (by decide), fun h0_ => absurd ((hoff 25 (by kernel_rfl)).symm.trans h0_) (by decide)⟩
                          refine steps_cons ?_ ?_
                          · rintro b a w' ⟨v275, v279, ha, Q_HB, Q_HO276, Q_HO280⟩ hb_ hon hoff
                            refine ⟨_, rfl, fun K hK => ?_⟩
                            have e7 : a.tmps[7]? = some (.string t271) := by rw [ha]; exact (putSel_off rfl).trans rfl
                            have e27 : a.tmps[27]? = some (.bool ((t271.size : Int) == 12)) := by rw [ha]; exact putSel_on (e := (3, 27, .bool ((t271.size : Int) == 12))) 2 rfl rfl (hon 3 (by kernel_rfl)) rfl
                            replace ha := Aside0.mk ha
                            have HB := Aside0.mk Q_HB
                            refine value_ (w1 := w') (v := .string t271) (wanted_on rfl rfl rfl (e27.trans (by first | rfl | (simp [*]; done)))) rfl ?_ ?_
                            · go_simp
                              (try simp only [i64_w])
                              try rfl
                            refine hK.out _ _ ⟨v275, v279, (by rw [ha.out]; exact putSel_upk 3 hb_ rfl rfl rfl), Q_HB, fun h0_ => absurd ((hoff 21 (by kernel_rfl)).symm.trans h0_) (by decide), fun h0_ => absurd ((hoff 25 (by kernel_rfl)).symm.trans h0_) (by decide)⟩
                          refine steps_cons ?_ ?_
                          · rintro b a w' ⟨v275, v279, ha, Q_HB, Q_HO276, Q_HO280⟩ hb_ hon hoff
                            refine ⟨_, rfl, fun K hK => ?_⟩
                            have e28 : a.tmps[28]? = some (.string t271) := by rw [ha]; exact putSel_on (e := (4, 28, .string t271)) 3 rfl rfl (hon 4 (by kernel_rfl)) rfl
                            have e27 : a.tmps[27]? = some (.bool ((t271.size : Int) == 12)) := by rw [ha]; exact putSel_on (e := (3, 27, .bool ((t271.size : Int) == 12))) 2 rfl rfl (hon 3 (by kernel_rfl)) rfl
                            replace ha := Aside0.mk ha
                            have HB := Aside0.mk Q_HB
                            refine value_ (w1 := w') (v := .string (t271.extract 0 4)) (wanted_on rfl rfl rfl (e27.trans (by first | rfl | (simp [*]; done)))) rfl ?_ ?_
                            · go_simp
                              (try simp only [i64_w])
                              try rfl
                            refine hK.out _ _ ⟨v275, v279, (by rw [ha.out]; exact putSel_upk 4 hb_ rfl rfl rfl), Q_HB, fun h0_ => absurd ((hoff 21 (by kernel_rfl)).symm.trans h0_) (by decide), fun h0_ => absurd ((hoff 25 (by kernel_rfl)).symm.trans h0_) (by decide)⟩
                          refine steps_cons ?_ ?_
                          · rintro b a w' ⟨v275, v279, ha, Q_HB, Q_HO276, Q_HO280⟩ hb_ hon hoff
                            refine ⟨_, rfl, fun K hK => ?_⟩
                            have e0 : a.tmps[0]? = some (.int .u32 a0) := by rw [ha]; exact (putSel_off rfl).trans rfl
                            have e27 : a.tmps[27]? = some (.bool ((t271.size : Int) == 12)) := by rw [ha]; exact putSel_on (e := (3, 27, .bool ((t271.size : Int) == 12))) 2 rfl rfl (hon 3 (by kernel_rfl)) rfl
                            replace ha := Aside0.mk ha
                            have HB := Aside0.mk Q_HB
                            refine value_ (w1 := w') (v := .int .u32 a0) (wanted_on rfl rfl rfl (e27.trans (by first | rfl | (simp [*]; done)))) rfl ?_ ?_
                            · go_simp
                              (try simp only [i64_w])
                              try rfl
                            refine hK.out _ _ ⟨v275, v279, (by rw [ha.out]; exact putSel_upk 5 hb_ rfl rfl rfl), Q_HB, fun h0_ => absurd ((hoff 21 (by kernel_rfl)).symm.trans h0_) (by decide), fun h0_ => absurd ((hoff 25 (by kernel_rfl)).symm.trans h0_) (by decide)⟩
                          refine steps_cons ?_ ?_
                          · rintro b a w' ⟨v275, v279, ha, Q_HB, Q_HO276, Q_HO280⟩ hb_ hon hoff
                            refine ⟨_, rfl, fun K hK => ?_⟩
                            have e30 : a.tmps[30]? = some (.int .u32 a0) := by rw [ha]; exact putSel_on (e := (6, 30, .int .u32 a0)) 5 rfl rfl (hon 6 (by kernel_rfl)) rfl
                            have e27 : a.tmps[27]? = some (.bool ((t271.size : Int) == 12)) := by rw [ha]; exact putSel_on (e := (3, 27, .bool ((t271.size : Int) == 12))) 2 rfl rfl (hon 3 (by kernel_rfl)) rfl
                            replace ha := Aside0.mk ha
                            have HB := Aside0.mk Q_HB
                            refine value_ (w1 := w') (v := .int .u64 (IntKind.u64.wrap (a0))) (wanted_on rfl rfl rfl (e27.trans (by first | rfl | (simp [*]; done)))) rfl ?_ ?_
                            · go_simp
                              (try simp only [i64_w])
                              try rfl
                            refine hK.out _ _ ⟨v275, v279, (by rw [ha.out]; exact putSel_upk 6 hb_ rfl rfl rfl), Q_HB, fun h0_ => absurd ((hoff 21 (by kernel_rfl)).symm.trans h0_) (by decide), fun h0_ => absurd ((hoff 25 (by kernel_rfl)).symm.trans h0_) (by decide)⟩
                          refine steps_cons ?_ ?_
                          · rintro b a w' ⟨v275, v279, ha, Q_HB, Q_HO276, Q_HO280⟩ hb_ hon hoff
                            refine ⟨_, rfl, fun K hK => ?_⟩
                            have e31 : a.tmps[31]? = some (.int .u64 (IntKind.u64.wrap (a0))) := by rw [ha]; exact putSel_on (e := (7, 31, .int .u64 (IntKind.u64.wrap (a0)))) 6 rfl rfl (hon 7 (by kernel_rfl)) rfl
                            have e27 : a.tmps[27]? = some (.bool ((t271.size : Int) == 12)) := by rw [ha]; exact putSel_on (e := (3, 27, .bool ((t271.size : Int) == 12))) 2 rfl rfl (hon 3 (by kernel_rfl)) rfl
                            replace ha := Aside0.mk ha
                            have HB := Aside0.mk Q_HB
                            refine goes_ Try.func19 (by kernel_rfl) rfl #[.int .u64 (IntKind.u64.wrap (a0)), .int .i64 4] (by first | exact wanted_on rfl rfl rfl (e27.trans (by first | rfl | (simp [*]; done))) | rfl) rfl rfl (by first | (simp only [List.map_toArray, List.map_cons, List.map_nil, Act.eval, Array.getD_eq_getD_getElem?, Option.getD_some, e31, e27]; done) | (simp only [List.map_toArray, List.map_cons, List.map_nil, Act.eval, Array.getD_eq_getD_getElem?, Option.getD_some, e31, e27]; rfl)) ?_
                            with_reducible refine (gangwayref01_Bytes.calls kj3 (IntKind.u64.wrap (a0)) 4 t273 _ A13.out).mono ?_
                            rintro e w27 ⟨rfl, hb⟩
                            refine ⟨_, rfl, ?_⟩
                            have n0_ := Aside0.mk (below_step (by repeat (first | (with_reducible first | exact HB.out | apply below_alloc | apply pw_below_drewN | apply below_drew1) | exact HB.out)) hb)
                            clear HB
                            have HB := n0_
                            clear n0_
                            (try clear hb)
                            (try clear hb2)
                            (try clear hk)
                            (try clear hi)
                            refine hK.out _ _ ⟨v275, v279, (by rw [ha.out]; exact putSel_upk 7 hb_ rfl rfl rfl), (by repeat (first | (with_reducible first | exact HB.out | apply below_alloc | apply pw_below_drewN | apply below_drew1) | exact HB.out)), fun h0_ => absurd ((hoff 21 (by kernel_rfl)).symm.trans h0_) (by decide), fun h0_ => absurd ((hoff 25 (by kernel_rfl)).symm.trans h0_) (by decide)⟩
                          refine steps_cons ?_ ?_
                          · rintro b a w' ⟨v275, v279, ha, Q_HB, Q_HO276, Q_HO280⟩ hb_ hon hoff
                            refine ⟨_, rfl, fun K hK => ?_⟩
                            have e29 : a.tmps[29]? = some (.string (t271.extract 0 4)) := by rw [ha]; exact putSel_on (e := (5, 29, .string (t271.extract 0 4))) 4 rfl rfl (hon 5 (by kernel_rfl)) rfl
                            have e32 : a.tmps[32]? = some (.string t273) := by rw [ha]; exact putSel_on (e := (8, 32, .string t273)) 7 rfl rfl (hon 8 (by kernel_rfl)) rfl
                            have e27 : a.tmps[27]? = some (.bool ((t271.size : Int) == 12)) := by rw [ha]; exact putSel_on (e := (3, 27, .bool ((t271.size : Int) == 12))) 2 rfl rfl (hon 3 (by kernel_rfl)) rfl
                            replace ha := Aside0.mk ha
                            have HB := Aside0.mk Q_HB
                            refine value_ (w1 := w') (v := .bool ((t271.extract 0 4).toList == t273.toList)) (wanted_on rfl rfl rfl (e27.trans (by first | rfl | (simp [*]; done)))) rfl ?_ ?_
                            · go_simp
                              (try simp only [i64_w])
                              try rfl
                            refine hK.out _ _ ⟨v275, v279, (by rw [ha.out]; exact putSel_upk 8 hb_ rfl rfl rfl), Q_HB, fun h0_ => absurd ((hoff 21 (by kernel_rfl)).symm.trans h0_) (by decide), fun h0_ => absurd ((hoff 25 (by kernel_rfl)).symm.trans h0_) (by decide)⟩
                          refine steps_cons ?_ ?_
                          · rintro b a w' ⟨v275, v279, ha, Q_HB, Q_HO276, Q_HO280⟩ hb_ hon hoff
                            refine ⟨_, rfl, fun K hK => ?_⟩
                            have e27 : a.tmps[27]? = some (.bool ((t271.size : Int) == 12)) := by rw [ha]; exact putSel_on (e := (3, 27, .bool ((t271.size : Int) == 12))) 2 rfl rfl (hon 3 (by kernel_rfl)) rfl
                            have e33 : a.tmps[33]? = some (.bool ((t271.extract 0 4).toList == t273.toList)) := by rw [ha]; exact putSel_on (e := (9, 33, .bool ((t271.extract 0 4).toList == t273.toList))) 8 rfl rfl (hon 9 (by kernel_rfl)) rfl
                            replace ha := Aside0.mk ha
                            have HB := Aside0.mk Q_HB
                            refine value_ (w1 := w') (v := .bool ((t271.extract 0 4).toList == t273.toList)) (by rfl) rfl ?_ ?_
                            · go_simp
                              (try simp only [i64_w])
                              try rfl
                            refine hK.out _ _ ⟨v275, v279, (by rw [ha.out]; exact putSel_upk 9 hb_ rfl rfl rfl), Q_HB, fun h0_ => absurd ((hoff 21 (by kernel_rfl)).symm.trans h0_) (by decide), fun h0_ => absurd ((hoff 25 (by kernel_rfl)).symm.trans h0_) (by decide)⟩
                          refine steps_cons ?_ ?_
                          · rintro b a w' ⟨v275, v279, ha, Q_HB, Q_HO276, Q_HO280⟩ hb_ hon hoff
                            refine ⟨_, rfl, fun K hK => ?_⟩
                            have e34 : a.tmps[34]? = some (.bool ((t271.extract 0 4).toList == t273.toList)) := by rw [ha]; exact putSel_on (e := (10, 34, .bool ((t271.extract 0 4).toList == t273.toList))) 9 rfl rfl (hon 10 (by kernel_rfl)) rfl
                            replace ha := Aside0.mk ha
                            have HB := Aside0.mk Q_HB
                            refine value_ (w1 := w') (v := .bool ((t271.extract 0 4).toList == t273.toList)) (by rfl) rfl ?_ ?_
                            · go_simp
                              (try simp only [i64_w])
                              try rfl
                            refine hK.out _ _ ⟨v275, v279, (by rw [ha.out]; exact putSel_upk 10 hb_ rfl rfl rfl), Q_HB, fun h0_ => absurd ((hoff 21 (by kernel_rfl)).symm.trans h0_) (by decide), fun h0_ => absurd ((hoff 25 (by kernel_rfl)).symm.trans h0_) (by decide)⟩
                          refine steps_cons ?_ ?_
                          · rintro b a w' ⟨v275, v279, ha, Q_HB, Q_HO276, Q_HO280⟩ hb_ hon hoff
                            refine ⟨_, rfl, fun K hK => ?_⟩
                            have e7 : a.tmps[7]? = some (.string t271) := by rw [ha]; exact (putSel_off rfl).trans rfl
                            have e35 : a.tmps[35]? = some (.bool ((t271.extract 0 4).toList == t273.toList)) := by rw [ha]; exact putSel_on (e := (11, 35, .bool ((t271.extract 0 4).toList == t273.toList))) 10 rfl rfl (hon 11 (by kernel_rfl)) rfl
                            replace ha := Aside0.mk ha
                            have HB := Aside0.mk Q_HB
                            refine value_ (w1 := w') (v := .string t271) (wanted_on rfl rfl rfl (e35.trans (by first | rfl | (simp [*]; done)))) rfl ?_ ?_
                            · go_simp
                              (try simp only [i64_w])
                              try rfl
                            refine hK.out _ _ ⟨v275, v279, (by rw [ha.out]; exact putSel_upk 11 hb_ rfl rfl rfl), Q_HB, fun h0_ => absurd ((hoff 21 (by kernel_rfl)).symm.trans h0_) (by decide), fun h0_ => absurd ((hoff 25 (by kernel_rfl)).symm.trans h0_) (by decide)⟩
                          refine steps_cons ?_ ?_
                          · rintro b a w' ⟨v275, v279, ha, Q_HB, Q_HO276, Q_HO280⟩ hb_ hon hoff
                            refine ⟨_, rfl, fun K hK => ?_⟩
                            have e36 : a.tmps[36]? = some (.string t271) := by rw [ha]; exact putSel_on (e := (12, 36, .string t271)) 11 rfl rfl (hon 12 (by kernel_rfl)) rfl
                            have e35 : a.tmps[35]? = some (.bool ((t271.extract 0 4).toList == t273.toList)) := by rw [ha]; exact putSel_on (e := (11, 35, .bool ((t271.extract 0 4).toList == t273.toList))) 10 rfl rfl (hon 11 (by kernel_rfl)) rfl
                            replace ha := Aside0.mk ha
                            have HB := Aside0.mk Q_HB
                            refine value_ (w1 := w') (v := .string (t271.extract 4 8)) (wanted_on rfl rfl rfl (e35.trans (by first | rfl | (simp [*]; done)))) rfl ?_ ?_
                            · go_simp
                              (try simp only [i64_w])
                              try rfl
                            refine hK.out _ _ ⟨v275, v279, (by rw [ha.out]; exact putSel_upk 12 hb_ rfl rfl rfl), Q_HB, fun h0_ => absurd ((hoff 21 (by kernel_rfl)).symm.trans h0_) (by decide), fun h0_ => absurd ((hoff 25 (by kernel_rfl)).symm.trans h0_) (by decide)⟩
                          refine steps_cons ?_ ?_
                          · rintro b a w' ⟨v275, v279, ha, Q_HB, Q_HO276, Q_HO280⟩ hb_ hon hoff
                            refine ⟨_, rfl, fun K hK => ?_⟩
                            have e8 : a.tmps[8]? = some (.string t272) := by rw [ha]; exact (putSel_off rfl).trans rfl
                            have e35 : a.tmps[35]? = some (.bool ((t271.extract 0 4).toList == t273.toList)) := by rw [ha]; exact putSel_on (e := (11, 35, .bool ((t271.extract 0 4).toList == t273.toList))) 10 rfl rfl (hon 11 (by kernel_rfl)) rfl
                            replace ha := Aside0.mk ha
                            have HB := Aside0.mk Q_HB
                            refine value_ (w1 := w') (v := .string t272) (wanted_on rfl rfl rfl (e35.trans (by first | rfl | (simp [*]; done)))) rfl ?_ ?_
                            · go_simp
                              (try simp only [i64_w])
                              try rfl
                            refine hK.out _ _ ⟨v275, v279, (by rw [ha.out]; exact putSel_upk 13 hb_ rfl rfl rfl), Q_HB, fun h0_ => absurd ((hoff 21 (by kernel_rfl)).symm.trans h0_) (by decide), fun h0_ => absurd ((hoff 25 (by kernel_rfl)).symm.trans h0_) (by decide)⟩
                          refine steps_cons ?_ ?_
                          · rintro b a w' ⟨v275, v279, ha, Q_HB, Q_HO276, Q_HO280⟩ hb_ hon hoff
                            refine ⟨_, rfl, fun K hK => ?_⟩
                            have e38 : a.tmps[38]? = some (.string t272) := by rw [ha]; exact putSel_on (e := (14, 38, .string t272)) 13 rfl rfl (hon 14 (by kernel_rfl)) rfl
                            have e35 : a.tmps[35]? = some (.bool ((t271.extract 0 4).toList == t273.toList)) := by rw [ha]; exact putSel_on (e := (11, 35, .bool ((t271.extract 0 4).toList == t273.toList))) 10 rfl rfl (hon 11 (by kernel_rfl)) rfl
                            replace ha := Aside0.mk ha
                            have HB := Aside0.mk Q_HB
                            refine value_ (w1 := w') (v := .string (t272.extract 0 4)) (wanted_on rfl rfl rfl (e35.trans (by first | rfl | (simp [*]; done)))) rfl ?_ ?_
                            · go_simp
                              (try simp only [i64_w])
                              try rfl
                            refine hK.out _ _ ⟨v275, v279, (by rw [ha.out]; exact putSel_upk 14 hb_ rfl rfl rfl), Q_HB, fun h0_ => absurd ((hoff 21 (by kernel_rfl)).symm.trans h0_) (by decide), fun h0_ => absurd ((hoff 25 (by kernel_rfl)).symm.trans h0_) (by decide)⟩
                          refine steps_cons ?_ ?_
                          · rintro b a w' ⟨v275, v279, ha, Q_HB, Q_HO276, Q_HO280⟩ hb_ hon hoff
                            refine ⟨_, rfl, fun K hK => ?_⟩
                            have e37 : a.tmps[37]? = some (.string (t271.extract 4 8)) := by rw [ha]; exact putSel_on (e := (13, 37, .string (t271.extract 4 8))) 12 rfl rfl (hon 13 (by kernel_rfl)) rfl
                            have e39 : a.tmps[39]? = some (.string (t272.extract 0 4)) := by rw [ha]; exact putSel_on (e := (15, 39, .string (t272.extract 0 4))) 14 rfl rfl (hon 15 (by kernel_rfl)) rfl
                            have e35 : a.tmps[35]? = some (.bool ((t271.extract 0 4).toList == t273.toList)) := by rw [ha]; exact putSel_on (e := (11, 35, .bool ((t271.extract 0 4).toList == t273.toList))) 10 rfl rfl (hon 11 (by kernel_rfl)) rfl
                            replace ha := Aside0.mk ha
                            have HB := Aside0.mk Q_HB
                            refine value_ (w1 := w') (v := .bool ((t271.extract 4 8).toList == (t272.extract 0 4).toList)) (wanted_on rfl rfl rfl (e35.trans (by first | rfl | (simp [*]; done)))) rfl ?_ ?_
                            · go_simp
                              (try simp only [i64_w])
                              try rfl
                            refine hK.out _ _ ⟨v275, v279, (by rw [ha.out]; exact putSel_upk 15 hb_ rfl rfl rfl), Q_HB, fun h0_ => absurd ((hoff 21 (by kernel_rfl)).symm.trans h0_) (by decide), fun h0_ => absurd ((hoff 25 (by kernel_rfl)).symm.trans h0_) (by decide)⟩
                          refine steps_cons ?_ ?_
                          · rintro b a w' ⟨v275, v279, ha, Q_HB, Q_HO276, Q_HO280⟩ hb_ hon hoff
                            refine ⟨_, rfl, fun K hK => ?_⟩
                            have e35 : a.tmps[35]? = some (.bool ((t271.extract 0 4).toList == t273.toList)) := by rw [ha]; exact putSel_on (e := (11, 35, .bool ((t271.extract 0 4).toList == t273.toList))) 10 rfl rfl (hon 11 (by kernel_rfl)) rfl
                            have e40 : a.tmps[40]? = some (.bool ((t271.extract 4 8).toList == (t272.extract 0 4).toList)) := by rw [ha]; exact putSel_on (e := (16, 40, .bool ((t271.extract 4 8).toList == (t272.extract 0 4).toList))) 15 rfl rfl (hon 16 (by kernel_rfl)) rfl
                            replace ha := Aside0.mk ha
                            have HB := Aside0.mk Q_HB
                            refine value_ (w1 := w') (v := .bool ((t271.extract 4 8).toList == (t272.extract 0 4).toList)) (by rfl) rfl ?_ ?_
                            · go_simp
                              (try simp only [i64_w])
                              try rfl
                            refine hK.out _ _ ⟨v275, v279, (by rw [ha.out]; exact putSel_upk 16 hb_ rfl rfl rfl), Q_HB, fun h0_ => absurd ((hoff 21 (by kernel_rfl)).symm.trans h0_) (by decide), fun h0_ => absurd ((hoff 25 (by kernel_rfl)).symm.trans h0_) (by decide)⟩
                          refine steps_cons ?_ ?_
                          · rintro b a w' ⟨v275, v279, ha, Q_HB, Q_HO276, Q_HO280⟩ hb_ hon hoff
                            refine ⟨_, rfl, fun K hK => ?_⟩
                            have e41 : a.tmps[41]? = some (.bool ((t271.extract 4 8).toList == (t272.extract 0 4).toList)) := by rw [ha]; exact putSel_on (e := (17, 41, .bool ((t271.extract 4 8).toList == (t272.extract 0 4).toList))) 16 rfl rfl (hon 17 (by kernel_rfl)) rfl
                            replace ha := Aside0.mk ha
                            have HB := Aside0.mk Q_HB
                            refine value_ (w1 := w') (v := .bool ((t271.extract 4 8).toList == (t272.extract 0 4).toList)) (by rfl) rfl ?_ ?_
                            · go_simp
                              (try simp only [i64_w])
                              try rfl
                            refine hK.out _ _ ⟨v275, v279, (by rw [ha.out]; exact putSel_upk 17 hb_ rfl rfl rfl), Q_HB, fun h0_ => absurd ((hoff 21 (by kernel_rfl)).symm.trans h0_) (by decide), fun h0_ => absurd ((hoff 25 (by kernel_rfl)).symm.trans h0_) (by decide)⟩
                          refine steps_cons ?_ ?_
                          · rintro b a w' ⟨v275, v279, ha, Q_HB, Q_HO276, Q_HO280⟩ hb_ hon hoff
                            refine ⟨_, rfl, fun K hK => ?_⟩
                            have e7 : a.tmps[7]? = some (.string t271) := by rw [ha]; exact (putSel_off rfl).trans rfl
                            have e42 : a.tmps[42]? = some (.bool ((t271.extract 4 8).toList == (t272.extract 0 4).toList)) := by rw [ha]; exact putSel_on (e := (18, 42, .bool ((t271.extract 4 8).toList == (t272.extract 0 4).toList))) 17 rfl rfl (hon 18 (by kernel_rfl)) rfl
                            replace ha := Aside0.mk ha
                            have HB := Aside0.mk Q_HB
                            refine value_ (w1 := w') (v := .string t271) (wanted_on rfl rfl rfl (e42.trans (by first | rfl | (simp [*]; done)))) rfl ?_ ?_
                            · go_simp
                              (try simp only [i64_w])
                              try rfl
                            refine hK.out _ _ ⟨v275, v279, (by rw [ha.out]; exact putSel_upk 18 hb_ rfl rfl rfl), Q_HB, fun h0_ => absurd ((hoff 21 (by kernel_rfl)).symm.trans h0_) (by decide), Q_HO280⟩
                          refine steps_cons ?_ ?_
                          · rintro b a w' ⟨v275, v279, ha, Q_HB, Q_HO276, Q_HO280⟩ hb_ hon hoff
                            refine ⟨_, rfl, fun K hK => ?_⟩
                            have e2 : a.tmps[2]? = some (.string x2_3) := by rw [ha]; exact (putSel_off rfl).trans rfl
                            have e42 : a.tmps[42]? = some (.bool ((t271.extract 4 8).toList == (t272.extract 0 4).toList)) := by rw [ha]; exact putSel_on (e := (18, 42, .bool ((t271.extract 4 8).toList == (t272.extract 0 4).toList))) 17 rfl rfl (hon 18 (by kernel_rfl)) rfl
                            replace ha := Aside0.mk ha
                            have HB := Aside0.mk Q_HB
                            refine value_ (w1 := w') (v := .string x2_3) (wanted_on rfl rfl rfl (e42.trans (by first | rfl | (simp [*]; done)))) rfl ?_ ?_
                            · go_simp
                              (try simp only [i64_w])
                              try rfl
                            refine hK.out _ _ ⟨v275, v279, (by rw [ha.out]; exact putSel_upk 19 hb_ rfl rfl rfl), Q_HB, fun h0_ => absurd ((hoff 21 (by kernel_rfl)).symm.trans h0_) (by decide), Q_HO280⟩
                          refine steps_cons ?_ ?_
                          · rintro b a w' ⟨v275, v279, ha, Q_HB, Q_HO276, Q_HO280⟩ hb_ hon hoff
                            refine ⟨_, rfl, fun K hK => ?_⟩
                            have e43 : a.tmps[43]? = some (.string t271) := by rw [ha]; exact putSel_on (e := (19, 43, .string t271)) 18 rfl rfl (hon 19 (by kernel_rfl)) rfl
                            have e44 : a.tmps[44]? = some (.string x2_3) := by rw [ha]; exact putSel_on (e := (20, 44, .string x2_3)) 19 rfl rfl (hon 20 (by kernel_rfl)) rfl
                            have e42 : a.tmps[42]? = some (.bool ((t271.extract 4 8).toList == (t272.extract 0 4).toList)) := by rw [ha]; exact putSel_on (e := (18, 42, .bool ((t271.extract 4 8).toList == (t272.extract 0 4).toList))) 17 rfl rfl (hon 18 (by kernel_rfl)) rfl
                            replace ha := Aside0.mk ha
                            have HB := Aside0.mk Q_HB
                            refine Kd.R_lit_step Kd.string _ 9 ?hg (N := 45) ?hd (xs := ([t271, x2_3] : List ByteArray)) (inner := [.string t271, .string x2_3]) (ok := fun _ => True) (okp := fun _ => True) ?hr ?hp (fun _ hk => hk) trivial (Below.refl _ _) (Nat.le_refl _) (by simp) ?_; (case hd => rfl); (case hg => first | exact wanted_on rfl rfl rfl (e42.trans (by first | rfl | (simp [*]; done))) | rfl); (case hr => first | (go_simp; done) | (go_simp; rfl)); (case hp => exact (Reps.one (show Kd.M Kd.string _ _ _ t271 [.string t271] from rfl) (Reps.one (show Kd.M Kd.string _ _ _ x2_3 [.string x2_3] from rfl) (Reps.none _ _))))
                            intro v275 w29 ho30 hb hg_ hnew_
                            clear hg_ hnew_
                            (first | rw [← Ny274.out] at ho30 | (simp only [Int.reduceToNat] at ho30; rw [← Ny274.out] at ho30))
                            have n0_ := Aside0.mk (Kd.R_lower ho30 (below_size (by repeat (first | (with_reducible first | exact HB.out | apply below_alloc | apply pw_below_drewN | apply below_drew1) | exact HB.out))))
                            have n1_ := Aside0.mk (below_step (by repeat (first | (with_reducible first | exact HB.out | apply below_alloc | apply pw_below_drewN | apply below_drew1) | exact HB.out)) hb)
                            have z_HO280 := fun (h0_ : b 25 = true) => (show Kd.R Kd.string 9 w29 w.heap.size (fun _ => True) v279 y278 from by first | exact (Kd.R_elder' (by (with_reducible repeat (first | apply Kd.R_alloc | apply Kd.R_drewN | apply Kd.R_drew)); exact (Q_HO280 h0_)) (Kd.R_base ho30) hb) | exact Kd.R_mono (Kd.R_elder' (by (with_reducible repeat (first | apply Kd.R_alloc | apply Kd.R_drewN | apply Kd.R_drew)); exact (Q_HO280 h0_)) (Kd.R_base ho30) hb) (fun _ h_ => by first | trivial | exact h_ | exact h_.1))
                            clear HB
                            have HO276 := n0_
                            have HB := n1_
                            clear n0_ n1_
                            clear hb ho30
                            refine hK.out _ _ ⟨v275, v279, (by rw [ha.out]; exact putSel_upk 20 hb_ rfl rfl rfl), (by repeat (first | (with_reducible first | exact HB.out | apply below_alloc | apply pw_below_drewN | apply below_drew1) | exact HB.out)), fun _ => (by (with_reducible repeat (first | apply Kd.R_alloc | apply Kd.R_drewN | apply Kd.R_drew)); exact HO276.out), z_HO280⟩
                          refine steps_cons ?_ ?_
                          · rintro b a w' ⟨v275, v279, ha, Q_HB, Q_HO276, Q_HO280⟩ hb_ hon hoff
                            refine ⟨_, rfl, fun K hK => ?_⟩
                            have e45 : a.tmps[45]? = some (v275) := by rw [ha]; exact putSel_on (e := (21, 45, v275)) 20 rfl rfl (hon 21 (by kernel_rfl)) rfl
                            have e42 : a.tmps[42]? = some (.bool ((t271.extract 4 8).toList == (t272.extract 0 4).toList)) := by rw [ha]; exact putSel_on (e := (18, 42, .bool ((t271.extract 4 8).toList == (t272.extract 0 4).toList))) 17 rfl rfl (hon 18 (by kernel_rfl)) rfl
                            replace ha := Aside0.mk ha
                            have HB := Aside0.mk Q_HB
                            have HO276 := Aside0.mk (Q_HO276 (hon 21 (by kernel_rfl)))
                            obtain ⟨Ao31, co31, eo31⟩ := Kd.R_slice HO276.out
                            (first | subst eo31 | (injection eo31 with f1_ f2_ f3_; have f4_ := f1_.symm; have f5_ := f3_.symm; clear f1_ f2_ f3_; subst f4_; subst f5_))
                            refine goes_ Try.func12 (by kernel_rfl) rfl #[.slice Ao31 y274.length co31] (by first | exact wanted_on rfl rfl rfl (e42.trans (by first | rfl | (simp [*]; done))) | rfl) rfl rfl (by first | (simp only [List.map_toArray, List.map_cons, List.map_nil, Act.eval, Array.getD_eq_getD_getElem?, Option.getD_some, e45, e42]; done) | (simp only [List.map_toArray, List.map_cons, List.map_nil, Act.eval, Array.getD_eq_getD_getElem?, Option.getD_some, e45, e42]; rfl)) ?_
                            with_reducible refine (csum_Of.calls kj3 _ _ y274 t277 _ ?side1 ?side2 A20.out).mono ?_
                            (case side1 => repeat (first | exact (Kd.R_reads' HO276.out).2.2 | (with_reducible refine Kd.C_alloc ?_ _) | (with_reducible refine Kd.C_drewN ?_ _) | (with_reducible refine Kd.C_drew ?_)))
                            (case side2 => exact (Kd.R_reads' HO276.out).2.1)
                            rintro e w32 ⟨rfl, hb⟩
                            refine ⟨_, rfl, ?_⟩
                            have n0_ := Aside0.mk (Kd.R_below (by (with_reducible repeat (first | apply Kd.R_alloc | apply Kd.R_drewN | apply Kd.R_drew)); exact HO276.out) hb)
                            have n1_ := Aside0.mk (below_step (by repeat (first | (with_reducible first | exact HB.out | apply below_alloc | apply pw_below_drewN | apply below_drew1) | exact HB.out)) hb)
                            have z_HO280 := fun (h0_ : b 25 = true) => (show Kd.R Kd.string 9 w32 w.heap.size (fun _ => True) v279 y278 from by first | exact (Kd.R_below (by (with_reducible repeat (first | apply Kd.R_alloc | apply Kd.R_drewN | apply Kd.R_drew)); exact (Q_HO280 h0_)) hb) | exact Kd.R_mono (Kd.R_below (by (with_reducible repeat (first | apply Kd.R_alloc | apply Kd.R_drewN | apply Kd.R_drew)); exact (Q_HO280 h0_)) hb) (fun _ h_ => by first | trivial | exact h_ | exact h_.1))
                            clear HO276
                            clear HB
                            have HO276 := n0_
                            have HB := n1_
                            clear n0_ n1_
                            (try clear hb)
                            (try clear hb2)
                            (try clear hk)
                            (try clear hi)
                            refine hK.out _ _ ⟨.slice Ao31 y274.length co31, v279, (by rw [ha.out]; exact putSel_upk 21 hb_ rfl rfl rfl), (by repeat (first | (with_reducible first | exact HB.out | apply below_alloc | apply pw_below_drewN | apply below_drew1) | exact HB.out)), fun _ => (by (with_reducible repeat (first | apply Kd.R_alloc | apply Kd.R_drewN | apply Kd.R_drew)); exact HO276.out), z_HO280⟩
                          refine steps_cons ?_ ?_
                          · rintro b a w' ⟨v275, v279, ha, Q_HB, Q_HO276, Q_HO280⟩ hb_ hon hoff
                            refine ⟨_, rfl, fun K hK => ?_⟩
                            have e8 : a.tmps[8]? = some (.string t272) := by rw [ha]; exact (putSel_off rfl).trans rfl
                            have e42 : a.tmps[42]? = some (.bool ((t271.extract 4 8).toList == (t272.extract 0 4).toList)) := by rw [ha]; exact putSel_on (e := (18, 42, .bool ((t271.extract 4 8).toList == (t272.extract 0 4).toList))) 17 rfl rfl (hon 18 (by kernel_rfl)) rfl
                            replace ha := Aside0.mk ha
                            have HB := Aside0.mk Q_HB
                            refine value_ (w1 := w') (v := .string t272) (wanted_on rfl rfl rfl (e42.trans (by first | rfl | (simp [*]; done)))) rfl ?_ ?_
                            · go_simp
                              (try simp only [i64_w])
                              try rfl
                            refine hK.out _ _ ⟨v275, v279, (by rw [ha.out]; exact putSel_upk 22 hb_ rfl rfl rfl), Q_HB, Q_HO276, fun h0_ => absurd ((hoff 25 (by kernel_rfl)).symm.trans h0_) (by decide)⟩
                          refine steps_cons ?_ ?_
                          · rintro b a w' ⟨v275, v279, ha, Q_HB, Q_HO276, Q_HO280⟩ hb_ hon hoff
                            refine ⟨_, rfl, fun K hK => ?_⟩
                            have e2 : a.tmps[2]? = some (.string x2_3) := by rw [ha]; exact (putSel_off rfl).trans rfl
                            have e42 : a.tmps[42]? = some (.bool ((t271.extract 4 8).toList == (t272.extract 0 4).toList)) := by rw [ha]; exact putSel_on (e := (18, 42, .bool ((t271.extract 4 8).toList == (t272.extract 0 4).toList))) 17 rfl rfl (hon 18 (by kernel_rfl)) rfl
                            replace ha := Aside0.mk ha
                            have HB := Aside0.mk Q_HB
                            refine value_ (w1 := w') (v := .string x2_3) (wanted_on rfl rfl rfl (e42.trans (by first | rfl | (simp [*]; done)))) rfl ?_ ?_
                            · go_simp
                              (try simp only [i64_w])
                              try rfl
                            refine hK.out _ _ ⟨v275, v279, (by rw [ha.out]; exact putSel_upk 23 hb_ rfl rfl rfl), Q_HB, Q_HO276, fun h0_ => absurd ((hoff 25 (by kernel_rfl)).symm.trans h0_) (by decide)⟩
                          refine steps_cons ?_ ?_
                          · rintro b a w' ⟨v275, v279, ha, Q_HB, Q_HO276, Q_HO280⟩ hb_ hon hoff
                            refine ⟨_, rfl, fun K hK => ?_⟩
                            have e47 : a.tmps[47]? = some (.string t272) := by rw [ha]; exact putSel_on (e := (23, 47, .string t272)) 22 rfl rfl (hon 23 (by kernel_rfl)) rfl
                            have e48 : a.tmps[48]? = some (.string x2_3) := by rw [ha]; exact putSel_on (e := (24, 48, .string x2_3)) 23 rfl rfl (hon 24 (by kernel_rfl)) rfl
                            have e42 : a.tmps[42]? = some (.bool ((t271.extract 4 8).toList == (t272.extract 0 4).toList)) := by rw [ha]; exact putSel_on (e := (18, 42, .bool ((t271.extract 4 8).toList == (t272.extract 0 4).toList))) 17 rfl rfl (hon 18 (by kernel_rfl)) rfl
                            replace ha := Aside0.mk ha
                            have HB := Aside0.mk Q_HB
                            refine Kd.R_lit_step Kd.string _ 9 ?hg (N := 49) ?hd (xs := ([t272, x2_3] : List ByteArray)) (inner := [.string t272, .string x2_3]) (ok := fun _ => True) (okp := fun _ => True) ?hr ?hp (fun _ hk => hk) trivial (Below.refl _ _) (Nat.le_refl _) (by simp) ?_; (case hd => rfl); (case hg => first | exact wanted_on rfl rfl rfl (e42.trans (by first | rfl | (simp [*]; done))) | rfl); (case hr => first | (go_simp; done) | (go_simp; rfl)); (case hp => exact (Reps.one (show Kd.M Kd.string _ _ _ t272 [.string t272] from rfl) (Reps.one (show Kd.M Kd.string _ _ _ x2_3 [.string x2_3] from rfl) (Reps.none _ _))))
                            intro v279 w29 ho30 hb hg_ hnew_
                            clear hg_ hnew_
                            (first | rw [← Ny278.out] at ho30 | (simp only [Int.reduceToNat] at ho30; rw [← Ny278.out] at ho30))
                            have n0_ := Aside0.mk (Kd.R_lower ho30 (below_size (by repeat (first | (with_reducible first | exact HB.out | apply below_alloc | apply pw_below_drewN | apply below_drew1) | exact HB.out))))
                            have n1_ := Aside0.mk (below_step (by repeat (first | (with_reducible first | exact HB.out | apply below_alloc | apply pw_below_drewN | apply below_drew1) | exact HB.out)) hb)
                            have z_HO276 := fun (h0_ : b 21 = true) => (show Kd.R Kd.string 9 w29 w.heap.size (fun _ => True) v275 y274 from by first | exact (Kd.R_elder' (by (with_reducible repeat (first | apply Kd.R_alloc | apply Kd.R_drewN | apply Kd.R_drew)); exact (Q_HO276 h0_)) (Kd.R_base ho30) hb) | exact Kd.R_mono (Kd.R_elder' (by (with_reducible repeat (first | apply Kd.R_alloc | apply Kd.R_drewN | apply Kd.R_drew)); exact (Q_HO276 h0_)) (Kd.R_base ho30) hb) (fun _ h_ => by first | trivial | exact h_ | exact h_.1))
                            clear HB
                            have HO280 := n0_
                            have HB := n1_
                            clear n0_ n1_
                            clear hb ho30
                            refine hK.out _ _ ⟨v275, v279, (by rw [ha.out]; exact putSel_upk 24 hb_ rfl rfl rfl), (by repeat (first | (with_reducible first | exact HB.out | apply below_alloc | apply pw_below_drewN | apply below_drew1) | exact HB.out)), z_HO276, fun _ => (by (with_reducible repeat (first | apply Kd.R_alloc | apply Kd.R_drewN | apply Kd.R_drew)); exact HO280.out)⟩
                          refine steps_cons ?_ ?_
                          · rintro b a w' ⟨v275, v279, ha, Q_HB, Q_HO276, Q_HO280⟩ hb_ hon hoff
                            refine ⟨_, rfl, fun K hK => ?_⟩
                            have e49 : a.tmps[49]? = some (v279) := by rw [ha]; exact putSel_on (e := (25, 49, v279)) 24 rfl rfl (hon 25 (by kernel_rfl)) rfl
                            have e42 : a.tmps[42]? = some (.bool ((t271.extract 4 8).toList == (t272.extract 0 4).toList)) := by rw [ha]; exact putSel_on (e := (18, 42, .bool ((t271.extract 4 8).toList == (t272.extract 0 4).toList))) 17 rfl rfl (hon 18 (by kernel_rfl)) rfl
                            replace ha := Aside0.mk ha
                            have HB := Aside0.mk Q_HB
                            have HO276 := Aside0.mk (Q_HO276 (hon 21 (by kernel_rfl)))
                            have HO280 := Aside0.mk (Q_HO280 (hon 25 (by kernel_rfl)))
                            obtain ⟨Ao35, co35, eo35⟩ := Kd.R_slice HO280.out
                            (first | subst eo35 | (injection eo35 with f1_ f2_ f3_; have f4_ := f1_.symm; have f5_ := f3_.symm; clear f1_ f2_ f3_; subst f4_; subst f5_))
                            refine goes_ Try.func12 (by kernel_rfl) rfl #[.slice Ao35 y278.length co35] (by first | exact wanted_on rfl rfl rfl (e42.trans (by first | rfl | (simp [*]; done))) | rfl) rfl rfl (by first | (simp only [List.map_toArray, List.map_cons, List.map_nil, Act.eval, Array.getD_eq_getD_getElem?, Option.getD_some, e49, e42]; done) | (simp only [List.map_toArray, List.map_cons, List.map_nil, Act.eval, Array.getD_eq_getD_getElem?, Option.getD_some, e49, e42]; rfl)) ?_
                            with_reducible refine (csum_Of.calls kj3 _ _ y278 t281 _ ?side1 ?side2 A21.out).mono ?_
                            (case side1 => repeat (first | exact (Kd.R_reads' HO280.out).2.2 | (with_reducible refine Kd.C_alloc ?_ _) | (with_reducible refine Kd.C_drewN ?_ _) | (with_reducible refine Kd.C_drew ?_)))
                            (case side2 => exact (Kd.R_reads' HO280.out).2.1)
                            rintro e w36 ⟨rfl, hb⟩
                            refine ⟨_, rfl, ?_⟩
                            have n0_ := Aside0.mk (Kd.R_below (by (with_reducible repeat (first | apply Kd.R_alloc | apply Kd.R_drewN | apply Kd.R_drew)); exact HO276.out) hb)
                            have n1_ := Aside0.mk (Kd.R_below (by (with_reducible repeat (first | apply Kd.R_alloc | apply Kd.R_drewN | apply Kd.R_drew)); exact HO280.out) hb)
                            have n2_ := Aside0.mk (below_step (by repeat (first | (with_reducible first | exact HB.out | apply below_alloc | apply pw_below_drewN | apply below_drew1) | exact HB.out)) hb)
                            clear HO276
                            clear HO280
                            clear HB
                            have HO276 := n0_
                            have HO280 := n1_
                            have HB := n2_
                            clear n0_ n1_ n2_
                            (try clear hb)
                            (try clear hb2)
                            (try clear hk)
                            (try clear hi)
                            refine hK.out _ _ ⟨v275, .slice Ao35 y278.length co35, (by rw [ha.out]; exact putSel_upk 25 hb_ rfl rfl rfl), (by repeat (first | (with_reducible first | exact HB.out | apply below_alloc | apply pw_below_drewN | apply below_drew1) | exact HB.out)), fun _ => (by (with_reducible repeat (first | apply Kd.R_alloc | apply Kd.R_drewN | apply Kd.R_drew)); exact HO276.out), fun _ => (by (with_reducible repeat (first | apply Kd.R_alloc | apply Kd.R_drewN | apply Kd.R_drew)); exact HO280.out)⟩
                          refine steps_cons ?_ ?_
                          · rintro b a w' ⟨v275, v279, ha, Q_HB, Q_HO276, Q_HO280⟩ hb_ hon hoff
                            refine ⟨_, rfl, fun K hK => ?_⟩
                            have e46 : a.tmps[46]? = some (.int .i64 t277) := by rw [ha]; exact putSel_on (e := (22, 46, .int .i64 t277)) 21 rfl rfl (hon 22 (by kernel_rfl)) rfl
                            have e50 : a.tmps[50]? = some (.int .i64 t281) := by rw [ha]; exact putSel_on (e := (26, 50, .int .i64 t281)) 25 rfl rfl (hon 26 (by kernel_rfl)) rfl
                            have e42 : a.tmps[42]? = some (.bool ((t271.extract 4 8).toList == (t272.extract 0 4).toList)) := by rw [ha]; exact putSel_on (e := (18, 42, .bool ((t271.extract 4 8).toList == (t272.extract 0 4).toList))) 17 rfl rfl (hon 18 (by kernel_rfl)) rfl
                            replace ha := Aside0.mk ha
                            have HB := Aside0.mk Q_HB
                            have HO276 := Aside0.mk (Q_HO276 (hon 21 (by kernel_rfl)))
                            have HO280 := Aside0.mk (Q_HO280 (hon 25 (by kernel_rfl)))
                            refine value_ (w1 := w') (v := .bool (t277 == t281)) (wanted_on rfl rfl rfl (e42.trans (by first | rfl | (simp [*]; done)))) rfl ?_ ?_
                            · go_simp
                              (try simp only [i64_w])
                              try rfl
                            refine hK.out _ _ ⟨v275, v279, (by rw [ha.out]; exact putSel_upk 26 hb_ rfl rfl rfl), Q_HB, Q_HO276, Q_HO280⟩
                          refine steps_cons ?_ ?_
                          · rintro b a w' ⟨v275, v279, ha, Q_HB, Q_HO276, Q_HO280⟩ hb_ hon hoff
                            refine ⟨_, rfl, fun K hK => ?_⟩
                            have e42 : a.tmps[42]? = some (.bool ((t271.extract 4 8).toList == (t272.extract 0 4).toList)) := by rw [ha]; exact putSel_on (e := (18, 42, .bool ((t271.extract 4 8).toList == (t272.extract 0 4).toList))) 17 rfl rfl (hon 18 (by kernel_rfl)) rfl
                            have e51 : a.tmps[51]? = some (.bool (t277 == t281)) := by rw [ha]; exact putSel_on (e := (27, 51, .bool (t277 == t281))) 26 rfl rfl (hon 27 (by kernel_rfl)) rfl
                            replace ha := Aside0.mk ha
                            have HB := Aside0.mk Q_HB
                            have HO276 := Aside0.mk (Q_HO276 (hon 21 (by kernel_rfl)))
                            have HO280 := Aside0.mk (Q_HO280 (hon 25 (by kernel_rfl)))
                            refine value_ (w1 := w') (v := .bool (t277 == t281)) (by rfl) rfl ?_ ?_
                            · go_simp
                              (try simp only [i64_w])
                              try rfl
                            refine hK.out _ _ ⟨v275, v279, (by rw [ha.out]; exact putSel_upk 27 hb_ rfl rfl rfl), Q_HB, Q_HO276, Q_HO280⟩
                          refine steps_cons ?_ ?_
                          · rintro b a w' ⟨v275, v279, ha, Q_HB, Q_HO276, Q_HO280⟩ hb_ hon hoff
                            refine ⟨_, rfl, fun K hK => ?_⟩
                            have e52 : a.tmps[52]? = some (.bool (t277 == t281)) := by rw [ha]; exact putSel_on (e := (28, 52, .bool (t277 == t281))) 27 rfl rfl (hon 28 (by kernel_rfl)) rfl
                            replace ha := Aside0.mk ha
                            have HB := Aside0.mk Q_HB
                            have HO276 := Aside0.mk (Q_HO276 (hon 21 (by kernel_rfl)))
                            have HO280 := Aside0.mk (Q_HO280 (hon 25 (by kernel_rfl)))
                            refine value_ (w1 := w') (v := .bool (t277 == t281)) (by rfl) rfl ?_ ?_
                            · go_simp
                              (try simp only [i64_w])
                              try rfl
                            refine hK.out _ _ ⟨v275, v279, (by rw [ha.out]; exact putSel_upk 28 hb_ rfl rfl rfl), Q_HB, Q_HO276, Q_HO280⟩
                          refine steps_cons ?_ ?_
                          · rintro b a w' ⟨v275, v279, ha, Q_HB, Q_HO276, Q_HO280⟩ hb_ hon hoff
                            refine ⟨_, rfl, fun K hK => ?_⟩
                            have e53 : a.tmps[53]? = some (.bool (t277 == t281)) := by rw [ha]; exact putSel_on (e := (29, 53, .bool (t277 == t281))) 28 rfl rfl (hon 29 (by kernel_rfl)) rfl
                            replace ha := Aside0.mk ha
                            have HB := Aside0.mk Q_HB
                            have HO276 := Aside0.mk (Q_HO276 (hon 21 (by kernel_rfl)))
                            have HO280 := Aside0.mk (Q_HO280 (hon 25 (by kernel_rfl)))
                            refine goes_ Try.func11 (by kernel_rfl) rfl #[] (by first | exact wanted_on rfl rfl rfl (e53.trans (by first | rfl | (simp [*]; done))) | rfl) rfl rfl (by first | (simp only [List.map_toArray, List.map_cons, List.map_nil, Act.eval, Array.getD_eq_getD_getElem?, Option.getD_some, e53]; done) | (simp only [List.map_toArray, List.map_cons, List.map_nil, Act.eval, Array.getD_eq_getD_getElem?, Option.getD_some, e53]; rfl)) ?_
                            with_reducible refine (gangwaylaw03_fixed.calls kj3  t282 _ A23.out).mono ?_
                            rintro e w37 ⟨rfl, hb⟩
                            refine ⟨_, rfl, ?_⟩
                            have n0_ := Aside0.mk (Kd.R_below (by (with_reducible repeat (first | apply Kd.R_alloc | apply Kd.R_drewN | apply Kd.R_drew)); exact HO276.out) hb)
                            have n1_ := Aside0.mk (Kd.R_below (by (with_reducible repeat (first | apply Kd.R_alloc | apply Kd.R_drewN | apply Kd.R_drew)); exact HO280.out) hb)
                            have n2_ := Aside0.mk (below_step (by repeat (first | (with_reducible first | exact HB.out | apply below_alloc | apply pw_below_drewN | apply below_drew1) | exact HB.out)) hb)
                            clear HO276
                            clear HO280
                            clear HB
                            have HO276 := n0_
                            have HO280 := n1_
                            have HB := n2_
                            clear n0_ n1_ n2_
                            (try clear hb)
                            (try clear hb2)
                            (try clear hk)
                            (try clear hi)
                            refine hK.out _ _ ⟨v275, v279, (by rw [ha.out]; exact putSel_upk 29 hb_ rfl rfl rfl), (by repeat (first | (with_reducible first | exact HB.out | apply below_alloc | apply pw_below_drewN | apply below_drew1) | exact HB.out)), fun _ => (by (with_reducible repeat (first | apply Kd.R_alloc | apply Kd.R_drewN | apply Kd.R_drew)); exact HO276.out), fun _ => (by (with_reducible repeat (first | apply Kd.R_alloc | apply Kd.R_drewN | apply Kd.R_drew)); exact HO280.out)⟩
                          refine steps_cons ?_ ?_
                          · rintro b a w' ⟨v275, v279, ha, Q_HB, Q_HO276, Q_HO280⟩ hb_ hon hoff
                            refine ⟨_, rfl, fun K hK => ?_⟩
                            have e53 : a.tmps[53]? = some (.bool (t277 == t281)) := by rw [ha]; exact putSel_on (e := (29, 53, .bool (t277 == t281))) 28 rfl rfl (hon 29 (by kernel_rfl)) rfl
                            have e54 : a.tmps[54]? = some (.bool t282) := by rw [ha]; exact putSel_on (e := (30, 54, .bool t282)) 29 rfl rfl (hon 30 (by kernel_rfl)) rfl
                            replace ha := Aside0.mk ha
                            have HB := Aside0.mk Q_HB
                            have HO276 := Aside0.mk (Q_HO276 (hon 21 (by kernel_rfl)))
                            have HO280 := Aside0.mk (Q_HO280 (hon 25 (by kernel_rfl)))
                            refine value_ (w1 := w') (v := .bool t282) (by rfl) rfl ?_ ?_
                            · go_simp
                              (try simp only [i64_w])
                              try rfl
                            refine hK.out _ _ ⟨v275, v279, (by rw [ha.out]; exact putSel_upk 30 hb_ rfl rfl rfl), Q_HB, Q_HO276, Q_HO280⟩
                          refine steps_cons ?_ ?_
                          · rintro b a w' ⟨v275, v279, ha, Q_HB, Q_HO276, Q_HO280⟩ hb_ hon hoff
                            refine ⟨_, rfl, fun K hK => ?_⟩
                            have e55 : a.tmps[55]? = some (.bool t282) := by rw [ha]; exact putSel_on (e := (31, 55, .bool t282)) 30 rfl rfl (hon 31 (by kernel_rfl)) rfl
                            replace ha := Aside0.mk ha
                            have HB := Aside0.mk Q_HB
                            have HO276 := Aside0.mk (Q_HO276 (hon 21 (by kernel_rfl)))
                            have HO280 := Aside0.mk (Q_HO280 (hon 25 (by kernel_rfl)))
                            refine value_ (w1 := w') (v := .bool t282) (by rfl) rfl ?_ ?_
                            · go_simp
                              (try simp only [i64_w])
                              try rfl
                            refine hK.out _ _ ⟨v275, v279, (by rw [ha.out]; exact putSel_upk 31 hb_ rfl rfl rfl), Q_HB, Q_HO276, Q_HO280⟩
                          exact steps_nil
                        rintro b a w37 hall ⟨v275, v279, ha, Q_HB, Q_HO276, Q_HO280⟩
                        clear HB
                        have hb1_ := hall 1 (by kernel_rfl)
                        have hb2_ := hall 2 (by kernel_rfl)
                        have hb3_ := hall 3 (by kernel_rfl)
                        have hb4_ := hall 4 (by kernel_rfl)
                        have hb5_ := hall 5 (by kernel_rfl)
                        have hb6_ := hall 6 (by kernel_rfl)
                        have hb7_ := hall 7 (by kernel_rfl)
                        have hb8_ := hall 8 (by kernel_rfl)
                        have hb9_ := hall 9 (by kernel_rfl)
                        have hb10_ := hall 10 (by kernel_rfl)
                        have hb11_ := hall 11 (by kernel_rfl)
                        have hb12_ := hall 12 (by kernel_rfl)
                        have hb13_ := hall 13 (by kernel_rfl)
                        have hb14_ := hall 14 (by kernel_rfl)
                        have hb15_ := hall 15 (by kernel_rfl)
                        have hb16_ := hall 16 (by kernel_rfl)
                        have hb17_ := hall 17 (by kernel_rfl)
                        have hb18_ := hall 18 (by kernel_rfl)
                        have hb19_ := hall 19 (by kernel_rfl)
                        have hb20_ := hall 20 (by kernel_rfl)
                        have hb21_ := hall 21 (by kernel_rfl)
                        have hb22_ := hall 22 (by kernel_rfl)
                        have hb23_ := hall 23 (by kernel_rfl)
                        have hb24_ := hall 24 (by kernel_rfl)
                        have hb25_ := hall 25 (by kernel_rfl)
                        have hb26_ := hall 26 (by kernel_rfl)
                        have hb27_ := hall 27 (by kernel_rfl)
                        have hb28_ := hall 28 (by kernel_rfl)
                        have hb29_ := hall 29 (by kernel_rfl)
                        have hb30_ := hall 30 (by kernel_rfl)
                        have hb31_ := hall 31 (by kernel_rfl)
                        have hb32_ := hall 32 (by kernel_rfl)
                        subst ha
                        simp only [putSel, hb1_, hb2_, hb3_, hb4_, hb5_, hb6_, hb7_, hb8_, hb9_, hb10_, hb11_, hb12_, hb13_, hb14_, hb15_, hb16_, hb17_, hb18_, hb19_, hb20_, hb21_, hb22_, hb23_, hb24_, hb25_, hb26_, hb27_, hb28_, hb29_, hb30_, hb31_, hb32_, if_true, Act.put, List.setIfInBounds_toArray, List.set_cons_zero, List.set_cons_succ]
                        have HB := Aside0.mk Q_HB
                        clear Q_HB
                        have HO276 := Aside0.mk (Q_HO276 hb21_)
                        clear Q_HO276
                        have HO280 := Aside0.mk (Q_HO280 hb25_)
                        clear Q_HO280
                        clear hall hb1_ hb2_ hb3_ hb4_ hb5_ hb6_ hb7_ hb8_ hb9_ hb10_ hb11_ hb12_ hb13_ hb14_ hb15_ hb16_ hb17_ hb18_ hb19_ hb20_ hb21_ hb22_ hb23_ hb24_ hb25_ hb26_ hb27_ hb28_ hb29_ hb30_ hb31_ hb32_
                        try go_wp2
                        go_ret
                        exact ⟨by first | rfl | (simp [errW_none, errW_some] <;> rfl) | (simp [*, errW_none, errW_some] <;> rfl), by repeat (first | (with_reducible first | exact HB.out | apply below_alloc | apply pw_below_drewN | apply below_drew1) | exact HB.out)⟩
                      · rw [if_neg c22] at H
                        have c22b0 : (t277 == t281) = false := beq_eq_false_iff_ne.mpr c22
                        have c22b1 : (t277 != t281) = true := bne_iff_ne.mpr c22
                        obtain rfl := Option.some.inj H
                        try go_wp2_with (first | ((with_reducible refine gate_callee (f := 17) rfl ?_); refine goesL_ (some 18) rfl rfl Try.func17 (by kernel_rfl) rfl #[.int .u32 a0, .int .u32 a1, .int .i64 17, .int .i64 (x2_3.size : Int)] rfl (by (try simp only [List.map_toArray, List.map_cons, List.map_nil]); first | done | rfl | (simp only [List.length_drop, List.length_take]; rfl)) ?_; (with_reducible refine (csum_Head.calls kj3 a0 a1 17 (x2_3.size : Int) t271 _ A8.out).mono ?_); rintro e w38 ⟨rfl, hb⟩; refine ⟨_, rfl, ?_⟩; have n0_ := Aside0.mk (below_step (by repeat (first | (with_reducible first | exact HB.out | apply below_alloc | apply pw_below_drewN | apply below_drew1) | exact HB.out)) hb); clear HB; have HB := n0_; clear n0_; (try clear hb); (try clear hb2); (try clear hk); (try clear hi)) | ((with_reducible refine gate_callee (f := 17) rfl ?_); refine goesL_ (some 23) rfl rfl Try.func17 (by kernel_rfl) rfl #[.int .u32 a1, .int .u32 a0, .int .i64 17, .int .i64 (x2_3.size : Int)] rfl (by (try simp only [List.map_toArray, List.map_cons, List.map_nil]); first | done | rfl | (simp only [List.length_drop, List.length_take]; rfl)) ?_; (with_reducible refine (csum_Head.calls kj3 a1 a0 17 (x2_3.size : Int) t272 _ A9.out).mono ?_); rintro e w39 ⟨rfl, hb⟩; refine ⟨_, rfl, ?_⟩; have n0_ := Aside0.mk (below_step (by repeat (first | (with_reducible first | exact HB.out | apply below_alloc | apply pw_below_drewN | apply below_drew1) | exact HB.out)) hb); clear HB; have HB := n0_; clear n0_; (try clear hb); (try clear hb2); (try clear hk); (try clear hi)))
                        have n0_ := Aside0.mk (below_drew1 HB.out)
                        clear HB
                        have HB := n0_
                        clear n0_
                        refine start_ (n := 33) (S := fun w' => True) (ds := []) #[false, false, false, false, false, false, false, false, false, false, false, false, false, false, false, false, false, false, false, false, false, false, false, false, false, false, false, false, false, false, false, false, false] (by kernel_rfl) rfl rfl trivial (fun hHeld => ?_); refine with_tabW gangwaylaw03_CsumPseudo.tab3 gangwaylaw03_CsumPseudo.bits3 (fun HT_ HW_ => ?_)
                        generalize w39.drew = w40 at HB hHeld ⊢
                        refine pure_ (i := 0) (N := some 24) (v := ?_) (a' := ?_) #[true, false, false, false, false, false, false, false, false, false, false, false, false, false, false, false, false, false, false, false, false, false, false, false, false, false, false, false, false, false, false, false, false] rfl rfl (any_of HT_.out (by kernel_rfl)) (fun _ _ _ h => h) (Or.inl ⟨by rfl, ?_⟩) ?_ ?_
                        rotate_left
                        · intro w'
                          go_simp
                          first | with_reducible rfl | (rw [if_neg (by (try simp only [decide_eq_true_eq, ByteArray.size_append, ByteArray.size_extract, eq_iff_iff, iff_true, iff_false, Nat.not_lt] at *); omega)]; try with_reducible rfl)
                        rotate_left
                        · simp only [Act.put, List.setIfInBounds_toArray, List.set_cons_zero, List.set_cons_succ, i64_w, i32_w]
                          rfl
                        refine inv_at [1, 2, 3, 4, 5, 6, 7, 8, 9, 10, 11, 12, 13, 14, 15, 16, 17, 18, 19, 20, 21, 22, 23, 24, 25, 26, 27, 28, 29, 30, 31, 32] (fun a0_ b a w' => ∃ (v275 : Value) (v279 : Value), a = putSel a0_ b [(1, 25, .int .i64 (t271.size : Int)), (2, 26, .bool ((t271.size : Int) == 12)), (3, 27, .bool ((t271.size : Int) == 12)), (4, 28, .string t271), (5, 29, .string (t271.extract 0 4)), (6, 30, .int .u32 a0), (7, 31, .int .u64 (IntKind.u64.wrap (a0))), (8, 32, .string t273), (9, 33, .bool ((t271.extract 0 4).toList == t273.toList)), (10, 34, .bool ((t271.extract 0 4).toList == t273.toList)), (11, 35, .bool ((t271.extract 0 4).toList == t273.toList)), (12, 36, .string t271), (13, 37, .string (t271.extract 4 8)), (14, 38, .string t272), (15, 39, .string (t272.extract 0 4)), (16, 40, .bool ((t271.extract 4 8).toList == (t272.extract 0 4).toList)), (17, 41, .bool ((t271.extract 4 8).toList == (t272.extract 0 4).toList)), (18, 42, .bool ((t271.extract 4 8).toList == (t272.extract 0 4).toList)), (19, 43, .string t271), (20, 44, .string x2_3), (21, 45, v275), (22, 46, .int .i64 t277), (23, 47, .string t272), (24, 48, .string x2_3), (25, 49, v279), (26, 50, .int .i64 t281), (27, 51, .bool (t277 == t281)), (28, 52, .bool (t277 == t281)), (29, 53, .bool (t277 == t281)), (30, 54, undef), (31, 55, .bool false), (32, 6, .bool false)] ∧ (Below w.heap.size w w') ∧ (b 21 = true → Kd.R Kd.string 9 w' w.heap.size (fun _ => True) v275 y274) ∧ (b 25 = true → Kd.R Kd.string 9 w' w.heap.size (fun _ => True) v279 y278)) HT_.out HW_.out (by kernel_rfl) (by kernel_rfl) ?_ ?_ ?_
                        · exact ⟨.bool false, .bool false, by simp only [putSel, Bool.false_eq_true, if_false], HB.out, fun h_ => absurd h_ (by decide), fun h_ => absurd h_ (by decide)⟩
                        · skip
                          clear HB
                          refine steps_cons ?_ ?_
                          · rintro b a w' ⟨v275, v279, ha, Q_HB, Q_HO276, Q_HO280⟩ hb_ hon hoff
                            refine ⟨_, rfl, fun K hK => ?_⟩
                            have e24 : a.tmps[24]? = some (.string t271) := by rw [ha]; exact (putSel_off rfl).trans rfl
                            replace ha := Aside0.mk ha
                            have HB := Aside0.mk Q_HB
                            refine value_ (w1 := w') (v := .int .i64 (t271.size : Int)) (by rfl) rfl ?_ ?_
                            · go_simp
                              (try simp only [i64_w])
                              try rfl
                            refine hK.out _ _ ⟨v275, v279, (by rw [ha.out]; exact putSel_upk 0 hb_ rfl rfl rfl), Q_HB, fun h0_ => absurd ((hoff 21 (by kernel_rfl)).symm.trans h0_) (by decide), fun h0_ => absurd ((hoff 25 (by kernel_rfl)).symm.trans h0_) (by decide)⟩
                          refine steps_cons ?_ ?_
                          · rintro b a w' ⟨v275, v279, ha, Q_HB, Q_HO276, Q_HO280⟩ hb_ hon hoff
                            refine ⟨_, rfl, fun K hK => ?_⟩
                            have e25 : a.tmps[25]? = some (.int .i64 (t271.size : Int)) := by rw [ha]; exact putSel_on (e := (1, 25, .int .i64 (t271.size : Int))) 0 rfl rfl (hon 1 (by kernel_rfl)) rfl
                            replace ha := Aside0.mk ha
                            have HB := Aside0.mk Q_HB
                            refine value_ (w1 := w') (v := .bool ((t271.size : Int) == 12)) (by rfl) rfl ?_ ?_
                            · go_simp
                              (try simp only [i64_w])
                              try rfl
                            refine hK.out _ _ ⟨v275, v279, (by rw [ha.out]; exact putSel_upk 1 hb_ rfl rfl rfl), Q_HB, fun h0_ => absurd ((hoff 21 (by kernel_rfl)).symm.trans h0_) (by decide), fun h0_ => absurd ((hoff 25 (by kernel_rfl)).symm.trans h0_) (by decide)⟩
                          refine steps_cons ?_ ?_
                          · rintro b a w' ⟨v275, v279, ha, Q_HB, Q_HO276, Q_HO280⟩ hb_ hon hoff
                            refine ⟨_, rfl, fun K hK => ?_⟩
                            have e26 : a.tmps[26]? = some (.bool ((t271.size : Int) == 12)) := by rw [ha]; exact putSel_on (e := (2, 26, .bool ((t271.size : Int) == 12))) 1 rfl rfl (hon 2 (by kernel_rfl)) rfl
                            replace ha := Aside0.mk ha
                            have HB := Aside0.mk Q_HB
                            refine value_ (w1 := w') (v := .bool ((t271.size : Int) == 12)) (by rfl) rfl ?_ ?_
                            · go_simp
                              (try simp only [i64_w])
                              try rfl
                            refine hK.out _ _ ⟨v275, v279, (by rw [ha.out]; exact putSel_upk 2 hb_ rfl rfl rfl), Q_HB, fun h0_ => absurd ((hoff 21 (by kernel_rfl)).symm.trans h0_) (by decide), fun h0_ => absurd ((hoff 25 (by kernel_rfl)).symm.trans h0_) (by decide)⟩
                          refine steps_cons ?_ ?_
                          · rintro b a w' ⟨v275, v279, ha, Q_HB, Q_HO276, Q_HO280⟩ hb_ hon hoff
                            refine ⟨_, rfl, fun K hK => ?_⟩
                            have e7 : a.tmps[7]? = some (.string t271) := by rw [ha]; exact (putSel_off rfl).trans rfl
                            have e27 : a.tmps[27]? = some (.bool ((t271.size : Int) == 12)) := by rw [ha]; exact putSel_on (e := (3, 27, .bool ((t271.size : Int) == 12))) 2 rfl rfl (hon 3 (by kernel_rfl)) rfl
                            replace ha := Aside0.mk ha
                            have HB := Aside0.mk Q_HB
                            refine value_ (w1 := w') (v := .string t271) (wanted_on rfl rfl rfl (e27.trans (by first | rfl | (simp [*]; done)))) rfl ?_ ?_
                            · go_simp
                              (try simp only [i64_w])
                              try rfl
                            refine hK.out _ _ ⟨v275, v279, (by rw [ha.out]; exact putSel_upk 3 hb_ rfl rfl rfl), Q_HB, fun h0_ => absurd ((hoff 21 (by kernel_rfl)).symm.trans h0_) (by decide), fun h0_ => absurd ((hoff 25 (by kernel_rfl)).symm.trans h0_) (by decide)⟩
                          refine steps_cons ?_ ?_
                          · rintro b a w' ⟨v275, v279, ha, Q_HB, Q_HO276, Q_HO280⟩ hb_ hon hoff
                            refine ⟨_, rfl, fun K hK => ?_⟩
                            have e28 : a.tmps[28]? = some (.string t271) := by rw [ha]; exact putSel_on (e := (4, 28, .string t271)) 3 rfl rfl (hon 4 (by kernel_rfl)) rfl
                            have e27 : a.tmps[27]? = some (.bool ((t271.size : Int) == 12)) := by rw [ha]; exact putSel_on (e := (3, 27, .bool ((t271.size : Int) == 12))) 2 rfl rfl (hon 3 (by kernel_rfl)) rfl
                            replace ha := Aside0.mk ha
                            have HB := Aside0.mk Q_HB
                            refine value_ (w1 := w') (v := .string (t271.extract 0 4)) (wanted_on rfl rfl rfl (e27.trans (by first | rfl | (simp [*]; done)))) rfl ?_ ?_
                            · go_simp
                              (try simp only [i64_w])
                              try rfl
                            refine hK.out _ _ ⟨v275, v279, (by rw [ha.out]; exact putSel_upk 4 hb_ rfl rfl rfl), Q_HB, fun h0_ => absurd ((hoff 21 (by kernel_rfl)).symm.trans h0_) (by decide), fun h0_ => absurd ((hoff 25 (by kernel_rfl)).symm.trans h0_) (by decide)⟩
                          refine steps_cons ?_ ?_
                          · rintro b a w' ⟨v275, v279, ha, Q_HB, Q_HO276, Q_HO280⟩ hb_ hon hoff
                            refine ⟨_, rfl, fun K hK => ?_⟩
                            have e0 : a.tmps[0]? = some (.int .u32 a0) := by rw [ha]; exact (putSel_off rfl).trans rfl
                            have e27 : a.tmps[27]? = some (.bool ((t271.size : Int) == 12)) := by rw [ha]; exact putSel_on (e := (3, 27, .bool ((t271.size : Int) == 12))) 2 rfl rfl (hon 3 (by kernel_rfl)) rfl
                            replace ha := Aside0.mk ha
                            have HB := Aside0.mk Q_HB
                            refine value_ (w1 := w') (v := .int .u32 a0) (wanted_on rfl rfl rfl (e27.trans (by first | rfl | (simp [*]; done)))) rfl ?_ ?_
                            · go_simp
                              (try simp only [i64_w])
                              try rfl
                            refine hK.out _ _ ⟨v275, v279, (by rw [ha.out]; exact putSel_upk 5 hb_ rfl rfl rfl), Q_HB, fun h0_ => absurd ((hoff 21 (by kernel_rfl)).symm.trans h0_) (by decide), fun h0_ => absurd ((hoff 25 (by kernel_rfl)).symm.trans h0_) (by decide)⟩
                          refine steps_cons ?_ ?_
                          · rintro b a w' ⟨v275, v279, ha, Q_HB, Q_HO276, Q_HO280⟩ hb_ hon hoff
                            refine ⟨_, rfl, fun K hK => ?_⟩
                            have e30 : a.tmps[30]? = some (.int .u32 a0) := by rw [ha]; exact putSel_on (e := (6, 30, .int .u32 a0)) 5 rfl rfl (hon 6 (by kernel_rfl)) rfl
                            have e27 : a.tmps[27]? = some (.bool ((t271.size : Int) == 12)) := by rw [ha]; exact putSel_on (e := (3, 27, .bool ((t271.size : Int) == 12))) 2 rfl rfl (hon 3 (by kernel_rfl)) rfl
                            replace ha := Aside0.mk ha
                            have HB := Aside0.mk Q_HB
                            refine value_ (w1 := w') (v := .int .u64 (IntKind.u64.wrap (a0))) (wanted_on rfl rfl rfl (e27.trans (by first | rfl | (simp [*]; done)))) rfl ?_ ?_
                            · go_simp
                              (try simp only [i64_w])
                              try rfl
                            refine hK.out _ _ ⟨v275, v279, (by rw [ha.out]; exact putSel_upk 6 hb_ rfl rfl rfl), Q_HB, fun h0_ => absurd ((hoff 21 (by kernel_rfl)).symm.trans h0_) (by decide), fun h0_ => absurd ((hoff 25 (by kernel_rfl)).symm.trans h0_) (by decide)⟩
                          refine steps_cons ?_ ?_
                          · rintro b a w' ⟨v275, v279, ha, Q_HB, Q_HO276, Q_HO280⟩ hb_ hon hoff
                            refine ⟨_, rfl, fun K hK => ?_⟩
                            have e31 : a.tmps[31]? = some (.int .u64 (IntKind.u64.wrap (a0))) := by rw [ha]; exact putSel_on (e := (7, 31, .int .u64 (IntKind.u64.wrap (a0)))) 6 rfl rfl (hon 7 (by kernel_rfl)) rfl
                            have e27 : a.tmps[27]? = some (.bool ((t271.size : Int) == 12)) := by rw [ha]; exact putSel_on (e := (3, 27, .bool ((t271.size : Int) == 12))) 2 rfl rfl (hon 3 (by kernel_rfl)) rfl
                            replace ha := Aside0.mk ha
                            have HB := Aside0.mk Q_HB
                            refine goes_ Try.func19 (by kernel_rfl) rfl #[.int .u64 (IntKind.u64.wrap (a0)), .int .i64 4] (by first | exact wanted_on rfl rfl rfl (e27.trans (by first | rfl | (simp [*]; done))) | rfl) rfl rfl (by first | (simp only [List.map_toArray, List.map_cons, List.map_nil, Act.eval, Array.getD_eq_getD_getElem?, Option.getD_some, e31, e27]; done) | (simp only [List.map_toArray, List.map_cons, List.map_nil, Act.eval, Array.getD_eq_getD_getElem?, Option.getD_some, e31, e27]; rfl)) ?_
                            with_reducible refine (gangwayref01_Bytes.calls kj3 (IntKind.u64.wrap (a0)) 4 t273 _ A13.out).mono ?_
                            rintro e w41 ⟨rfl, hb⟩
                            refine ⟨_, rfl, ?_⟩
                            have n0_ := Aside0.mk (below_step (by repeat (first | (with_reducible first | exact HB.out | apply below_alloc | apply pw_below_drewN | apply below_drew1) | exact HB.out)) hb)
                            clear HB
                            have HB := n0_
                            clear n0_
                            (try clear hb)
                            (try clear hb2)
                            (try clear hk)
                            (try clear hi)
                            refine hK.out _ _ ⟨v275, v279, (by rw [ha.out]; exact putSel_upk 7 hb_ rfl rfl rfl), (by repeat (first | (with_reducible first | exact HB.out | apply below_alloc | apply pw_below_drewN | apply below_drew1) | exact HB.out)), fun h0_ => absurd ((hoff 21 (by kernel_rfl)).symm.trans h0_) (by decide), fun h0_ => absurd ((hoff 25 (by kernel_rfl)).symm.trans h0_) (by decide)⟩
                          refine steps_cons ?_ ?_
                          · rintro b a w' ⟨v275, v279, ha, Q_HB, Q_HO276, Q_HO280⟩ hb_ hon hoff
                            refine ⟨_, rfl, fun K hK => ?_⟩
                            have e29 : a.tmps[29]? = some (.string (t271.extract 0 4)) := by rw [ha]; exact putSel_on (e := (5, 29, .string (t271.extract 0 4))) 4 rfl rfl (hon 5 (by kernel_rfl)) rfl
                            have e32 : a.tmps[32]? = some (.string t273) := by rw [ha]; exact putSel_on (e := (8, 32, .string t273)) 7 rfl rfl (hon 8 (by kernel_rfl)) rfl
                            have e27 : a.tmps[27]? = some (.bool ((t271.size : Int) == 12)) := by rw [ha]; exact putSel_on (e := (3, 27, .bool ((t271.size : Int) == 12))) 2 rfl rfl (hon 3 (by kernel_rfl)) rfl
                            replace ha := Aside0.mk ha
                            have HB := Aside0.mk Q_HB
                            refine value_ (w1 := w') (v := .bool ((t271.extract 0 4).toList == t273.toList)) (wanted_on rfl rfl rfl (e27.trans (by first | rfl | (simp [*]; done)))) rfl ?_ ?_
                            · go_simp
                              (try simp only [i64_w])
                              try rfl
                            refine hK.out _ _ ⟨v275, v279, (by rw [ha.out]; exact putSel_upk 8 hb_ rfl rfl rfl), Q_HB, fun h0_ => absurd ((hoff 21 (by kernel_rfl)).symm.trans h0_) (by decide), fun h0_ => absurd ((hoff 25 (by kernel_rfl)).symm.trans h0_) (by decide)⟩
                          refine steps_cons ?_ ?_
                          · rintro b a w' ⟨v275, v279, ha, Q_HB, Q_HO276, Q_HO280⟩ hb_ hon hoff
                            refine ⟨_, rfl, fun K hK => ?_⟩
                            have e27 : a.tmps[27]? = some (.bool ((t271.size : Int) == 12)) := by rw [ha]; exact putSel_on (e := (3, 27, .bool ((t271.size : Int) == 12))) 2 rfl rfl (hon 3 (by kernel_rfl)) rfl
                            have e33 : a.tmps[33]? = some (.bool ((t271.extract 0 4).toList == t273.toList)) := by rw [ha]; exact putSel_on (e := (9, 33, .bool ((t271.extract 0 4).toList == t273.toList))) 8 rfl rfl (hon 9 (by kernel_rfl)) rfl
                            replace ha := Aside0.mk ha
                            have HB := Aside0.mk Q_HB
                            refine value_ (w1 := w') (v := .bool ((t271.extract 0 4).toList == t273.toList)) (by rfl) rfl ?_ ?_
                            · go_simp
                              (try simp only [i64_w])
                              try rfl
                            refine hK.out _ _ ⟨v275, v279, (by rw [ha.out]; exact putSel_upk 9 hb_ rfl rfl rfl), Q_HB, fun h0_ => absurd ((hoff 21 (by kernel_rfl)).symm.trans h0_) (by decide), fun h0_ => absurd ((hoff 25 (by kernel_rfl)).symm.trans h0_) (by decide)⟩
                          refine steps_cons ?_ ?_
                          · rintro b a w' ⟨v275, v279, ha, Q_HB, Q_HO276, Q_HO280⟩ hb_ hon hoff
                            refine ⟨_, rfl, fun K hK => ?_⟩
                            have e34 : a.tmps[34]? = some (.bool ((t271.extract 0 4).toList == t273.toList)) := by rw [ha]; exact putSel_on (e := (10, 34, .bool ((t271.extract 0 4).toList == t273.toList))) 9 rfl rfl (hon 10 (by kernel_rfl)) rfl
                            replace ha := Aside0.mk ha
                            have HB := Aside0.mk Q_HB
                            refine value_ (w1 := w') (v := .bool ((t271.extract 0 4).toList == t273.toList)) (by rfl) rfl ?_ ?_
                            · go_simp
                              (try simp only [i64_w])
                              try rfl
                            refine hK.out _ _ ⟨v275, v279, (by rw [ha.out]; exact putSel_upk 10 hb_ rfl rfl rfl), Q_HB, fun h0_ => absurd ((hoff 21 (by kernel_rfl)).symm.trans h0_) (by decide), fun h0_ => absurd ((hoff 25 (by kernel_rfl)).symm.trans h0_) (by decide)⟩
                          refine steps_cons ?_ ?_
                          · rintro b a w' ⟨v275, v279, ha, Q_HB, Q_HO276, Q_HO280⟩ hb_ hon hoff
                            refine ⟨_, rfl, fun K hK => ?_⟩
                            have e7 : a.tmps[7]? = some (.string t271) := by rw [ha]; exact (putSel_off rfl).trans rfl
                            have e35 : a.tmps[35]? = some (.bool ((t271.extract 0 4).toList == t273.toList)) := by rw [ha]; exact putSel_on (e := (11, 35, .bool ((t271.extract 0 4).toList == t273.toList))) 10 rfl rfl (hon 11 (by kernel_rfl)) rfl
                            replace ha := Aside0.mk ha
                            have HB := Aside0.mk Q_HB
                            refine value_ (w1 := w') (v := .string t271) (wanted_on rfl rfl rfl (e35.trans (by first | rfl | (simp [*]; done)))) rfl ?_ ?_
                            · go_simp
                              (try simp only [i64_w])
                              try rfl
                            refine hK.out _ _ ⟨v275, v279, (by rw [ha.out]; exact putSel_upk 11 hb_ rfl rfl rfl), Q_HB, fun h0_ => absurd ((hoff 21 (by kernel_rfl)).symm.trans h0_) (by decide), fun h0_ => absurd ((hoff 25 (by kernel_rfl)).symm.trans h0_) (by decide)⟩
                          refine steps_cons ?_ ?_
                          · rintro b a w' ⟨v275, v279, ha, Q_HB, Q_HO276, Q_HO280⟩ hb_ hon hoff
                            refine ⟨_, rfl, fun K hK => ?_⟩
                            have e36 : a.tmps[36]? = some (.string t271) := by rw [ha]; exact putSel_on (e := (12, 36, .string t271)) 11 rfl rfl (hon 12 (by kernel_rfl)) rfl
                            have e35 : a.tmps[35]? = some (.bool ((t271.extract 0 4).toList == t273.toList)) := by rw [ha]; exact putSel_on (e := (11, 35, .bool ((t271.extract 0 4).toList == t273.toList))) 10 rfl rfl (hon 11 (by kernel_rfl)) rfl
                            replace ha := Aside0.mk ha
                            have HB := Aside0.mk Q_HB
                            refine value_ (w1 := w') (v := .string (t271.extract 4 8)) (wanted_on rfl rfl rfl (e35.trans (by first | rfl | (simp [*]; done)))) rfl ?_ ?_
                            · go_simp
                              (try simp only [i64_w])
                              try rfl
                            refine hK.out _ _ ⟨v275, v279, (by rw [ha.out]; exact putSel_upk 12 hb_ rfl rfl rfl), Q_HB, fun h0_ => absurd ((hoff 21 (by kernel_rfl)).symm.trans h0_) (by decide), fun h0_ => absurd ((hoff 25 (by kernel_rfl)).symm.trans h0_) (by decide)⟩
                          refine steps_cons ?_ ?_
                          · rintro b a w' ⟨v275, v279, ha, Q_HB, Q_HO276, Q_HO280⟩ hb_ hon hoff
                            refine ⟨_, rfl, fun K hK => ?_⟩
                            have e8 : a.tmps[8]? = some (.string t272) := by rw [ha]; exact (putSel_off rfl).trans rfl
                            have e35 : a.tmps[35]? = some (.bool ((t271.extract 0 4).toList == t273.toList)) := by rw [ha]; exact putSel_on (e := (11, 35, .bool ((t271.extract 0 4).toList == t273.toList))) 10 rfl rfl (hon 11 (by kernel_rfl)) rfl
                            replace ha := Aside0.mk ha
                            have HB := Aside0.mk Q_HB
                            refine value_ (w1 := w') (v := .string t272) (wanted_on rfl rfl rfl (e35.trans (by first | rfl | (simp [*]; done)))) rfl ?_ ?_
                            · go_simp
                              (try simp only [i64_w])
                              try rfl
                            refine hK.out _ _ ⟨v275, v279, (by rw [ha.out]; exact putSel_upk 13 hb_ rfl rfl rfl), Q_HB, fun h0_ => absurd ((hoff 21 (by kernel_rfl)).symm.trans h0_) (by decide), fun h0_ => absurd ((hoff 25 (by kernel_rfl)).symm.trans h0_) (by decide)⟩
                          refine steps_cons ?_ ?_
                          · rintro b a w' ⟨v275, v279, ha, Q_HB, Q_HO276, Q_HO280⟩ hb_ hon hoff
                            refine ⟨_, rfl, fun K hK => ?_⟩
                            have e38 : a.tmps[38]? = some (.string t272) := by rw [ha]; exact putSel_on (e := (14, 38, .string t272)) 13 rfl rfl (hon 14 (by kernel_rfl)) rfl
                            have e35 : a.tmps[35]? = some (.bool ((t271.extract 0 4).toList == t273.toList)) := by rw [ha]; exact putSel_on (e := (11, 35, .bool ((t271.extract 0 4).toList == t273.toList))) 10 rfl rfl (hon 11 (by kernel_rfl)) rfl
                            replace ha := Aside0.mk ha
                            have HB := Aside0.mk Q_HB
                            refine value_ (w1 := w') (v := .string (t272.extract 0 4)) (wanted_on rfl rfl rfl (e35.trans (by first | rfl | (simp [*]; done)))) rfl ?_ ?_
                            · go_simp
                              (try simp only [i64_w])
                              try rfl
                            refine hK.out _ _ ⟨v275, v279, (by rw [ha.out]; exact putSel_upk 14 hb_ rfl rfl rfl), Q_HB, fun h0_ => absurd ((hoff 21 (by kernel_rfl)).symm.trans h0_) (by decide), fun h0_ => absurd ((hoff 25 (by kernel_rfl)).symm.trans h0_) (by decide)⟩
                          refine steps_cons ?_ ?_
                          · rintro b a w' ⟨v275, v279, ha, Q_HB, Q_HO276, Q_HO280⟩ hb_ hon hoff
                            refine ⟨_, rfl, fun K hK => ?_⟩
                            have e37 : a.tmps[37]? = some (.string (t271.extract 4 8)) := by rw [ha]; exact putSel_on (e := (13, 37, .string (t271.extract 4 8))) 12 rfl rfl (hon 13 (by kernel_rfl)) rfl
                            have e39 : a.tmps[39]? = some (.string (t272.extract 0 4)) := by rw [ha]; exact putSel_on (e := (15, 39, .string (t272.extract 0 4))) 14 rfl rfl (hon 15 (by kernel_rfl)) rfl
                            have e35 : a.tmps[35]? = some (.bool ((t271.extract 0 4).toList == t273.toList)) := by rw [ha]; exact putSel_on (e := (11, 35, .bool ((t271.extract 0 4).toList == t273.toList))) 10 rfl rfl (hon 11 (by kernel_rfl)) rfl
                            replace ha := Aside0.mk ha
                            have HB := Aside0.mk Q_HB
                            refine value_ (w1 := w') (v := .bool ((t271.extract 4 8).toList == (t272.extract 0 4).toList)) (wanted_on rfl rfl rfl (e35.trans (by first | rfl | (simp [*]; done)))) rfl ?_ ?_
                            · go_simp
                              (try simp only [i64_w])
                              try rfl
                            refine hK.out _ _ ⟨v275, v279, (by rw [ha.out]; exact putSel_upk 15 hb_ rfl rfl rfl), Q_HB, fun h0_ => absurd ((hoff 21 (by kernel_rfl)).symm.trans h0_) (by decide), fun h0_ => absurd ((hoff 25 (by kernel_rfl)).symm.trans h0_) (by decide)⟩
                          refine steps_cons ?_ ?_
                          · rintro b a w' ⟨v275, v279, ha, Q_HB, Q_HO276, Q_HO280⟩ hb_ hon hoff
                            refine ⟨_, rfl, fun K hK => ?_⟩
                            have e35 : a.tmps[35]? = some (.bool ((t271.extract 0 4).toList == t273.toList)) := by rw [ha]; exact putSel_on (e := (11, 35, .bool ((t271.extract 0 4).toList == t273.toList))) 10 rfl rfl (hon 11 (by kernel_rfl)) rfl
                            have e40 : a.tmps[40]? = some (.bool ((t271.extract 4 8).toList == (t272.extract 0 4).toList)) := by rw [ha]; exact putSel_on (e := (16, 40, .bool ((t271.extract 4 8).toList == (t272.extract 0 4).toList))) 15 rfl rfl (hon 16 (by kernel_rfl)) rfl
                            replace ha := Aside0.mk ha
                            have HB := Aside0.mk Q_HB
                            refine value_ (w1 := w') (v := .bool ((t271.extract 4 8).toList == (t272.extract 0 4).toList)) (by rfl) rfl ?_ ?_
                            · go_simp
                              (try simp only [i64_w])
                              try rfl
                            refine hK.out _ _ ⟨v275, v279, (by rw [ha.out]; exact putSel_upk 16 hb_ rfl rfl rfl), Q_HB, fun h0_ => absurd ((hoff 21 (by kernel_rfl)).symm.trans h0_) (by decide), fun h0_ => absurd ((hoff 25 (by kernel_rfl)).symm.trans h0_) (by decide)⟩
                          refine steps_cons ?_ ?_
                          · rintro b a w' ⟨v275, v279, ha, Q_HB, Q_HO276, Q_HO280⟩ hb_ hon hoff
                            refine ⟨_, rfl, fun K hK => ?_⟩
                            have e41 : a.tmps[41]? = some (.bool ((t271.extract 4 8).toList == (t272.extract 0 4).toList)) := by rw [ha]; exact putSel_on (e := (17, 41, .bool ((t271.extract 4 8).toList == (t272.extract 0 4).toList))) 16 rfl rfl (hon 17 (by kernel_rfl)) rfl
                            replace ha := Aside0.mk ha
                            have HB := Aside0.mk Q_HB
                            refine value_ (w1 := w') (v := .bool ((t271.extract 4 8).toList == (t272.extract 0 4).toList)) (by rfl) rfl ?_ ?_
                            · go_simp
                              (try simp only [i64_w])
                              try rfl
                            refine hK.out _ _ ⟨v275, v279, (by rw [ha.out]; exact putSel_upk 17 hb_ rfl rfl rfl), Q_HB, fun h0_ => absurd ((hoff 21 (by kernel_rfl)).symm.trans h0_) (by decide), fun h0_ => absurd ((hoff 25 (by kernel_rfl)).symm.trans h0_) (by decide)⟩
                          refine steps_cons ?_ ?_
                          · rintro b a w' ⟨v275, v279, ha, Q_HB, Q_HO276, Q_HO280⟩ hb_ hon hoff
                            refine ⟨_, rfl, fun K hK => ?_⟩
                            have e7 : a.tmps[7]? = some (.string t271) := by rw [ha]; exact (putSel_off rfl).trans rfl
                            have e42 : a.tmps[42]? = some (.bool ((t271.extract 4 8).toList == (t272.extract 0 4).toList)) := by rw [ha]; exact putSel_on (e := (18, 42, .bool ((t271.extract 4 8).toList == (t272.extract 0 4).toList))) 17 rfl rfl (hon 18 (by kernel_rfl)) rfl
                            replace ha := Aside0.mk ha
                            have HB := Aside0.mk Q_HB
                            refine value_ (w1 := w') (v := .string t271) (wanted_on rfl rfl rfl (e42.trans (by first | rfl | (simp [*]; done)))) rfl ?_ ?_
                            · go_simp
                              (try simp only [i64_w])
                              try rfl
                            refine hK.out _ _ ⟨v275, v279, (by rw [ha.out]; exact putSel_upk 18 hb_ rfl rfl rfl), Q_HB, fun h0_ => absurd ((hoff 21 (by kernel_rfl)).symm.trans h0_) (by decide), Q_HO280⟩
                          refine steps_cons ?_ ?_
                          · rintro b a w' ⟨v275, v279, ha, Q_HB, Q_HO276, Q_HO280⟩ hb_ hon hoff
                            refine ⟨_, rfl, fun K hK => ?_⟩
                            have e2 : a.tmps[2]? = some (.string x2_3) := by rw [ha]; exact (putSel_off rfl).trans rfl
                            have e42 : a.tmps[42]? = some (.bool ((t271.extract 4 8).toList == (t272.extract 0 4).toList)) := by rw [ha]; exact putSel_on (e := (18, 42, .bool ((t271.extract 4 8).toList == (t272.extract 0 4).toList))) 17 rfl rfl (hon 18 (by kernel_rfl)) rfl
                            replace ha := Aside0.mk ha
                            have HB := Aside0.mk Q_HB
                            refine value_ (w1 := w') (v := .string x2_3) (wanted_on rfl rfl rfl (e42.trans (by first | rfl | (simp [*]; done)))) rfl ?_ ?_
                            · go_simp
                              (try simp only [i64_w])
                              try rfl
                            refine hK.out _ _ ⟨v275, v279, (by rw [ha.out]; exact putSel_upk 19 hb_ rfl rfl rfl), Q_HB, fun h0_ => absurd ((hoff 21 (by kernel_rfl)).symm.trans h0_) (by decide), Q_HO280⟩
                          refine steps_cons ?_ ?_
                          · rintro b a w' ⟨v275, v279, ha, Q_HB, Q_HO276, Q_HO280⟩ hb_ hon hoff
                            refine ⟨_, rfl, fun K hK => ?_⟩
                            have e43 : a.tmps[43]? = some (.string t271) := by rw [ha]; exact putSel_on (e := (19, 43, .string t271)) 18 rfl rfl (hon 19 (by kernel_rfl)) rfl
                            have e44 : a.tmps[44]? = some (.string x2_3) := by rw [ha]; exact putSel_on (e := (20, 44, .string x2_3)) 19 rfl rfl (hon 20 (by kernel_rfl)) rfl
                            have e42 : a.tmps[42]? = some (.bool ((t271.extract 4 8).toList == (t272.extract 0 4).toList)) := by rw [ha]; exact putSel_on (e := (18, 42, .bool ((t271.extract 4 8).toList == (t272.extract 0 4).toList))) 17 rfl rfl (hon 18 (by kernel_rfl)) rfl
                            replace ha := Aside0.mk ha
                            have HB := Aside0.mk Q_HB
                            refine Kd.R_lit_step Kd.string _ 9 ?hg (N := 45) ?hd (xs := ([t271, x2_3] : List ByteArray)) (inner := [.string t271, .string x2_3]) (ok := fun _ => True) (okp := fun _ => True) ?hr ?hp (fun _ hk => hk) trivial (Below.refl _ _) (Nat.le_refl _) (by simp) ?_; (case hd => rfl); (case hg => first | exact wanted_on rfl rfl rfl (e42.trans (by first | rfl | (simp [*]; done))) | rfl); (case hr => first | (go_simp; done) | (go_simp; rfl)); (case hp => exact (Reps.one (show Kd.M Kd.string _ _ _ t271 [.string t271] from rfl) (Reps.one (show Kd.M Kd.string _ _ _ x2_3 [.string x2_3] from rfl) (Reps.none _ _))))
                            intro v275 w43 ho44 hb hg_ hnew_
                            clear hg_ hnew_
                            (first | rw [← Ny274.out] at ho44 | (simp only [Int.reduceToNat] at ho44; rw [← Ny274.out] at ho44))
                            have n0_ := Aside0.mk (Kd.R_lower ho44 (below_size (by repeat (first | (with_reducible first | exact HB.out | apply below_alloc | apply pw_below_drewN | apply below_drew1) | exact HB.out))))
                            have n1_ := Aside0.mk (below_step (by repeat (first | (with_reducible first | exact HB.out | apply below_alloc | apply pw_below_drewN | apply below_drew1) | exact HB.out)) hb)
                            have z_HO280 := fun (h0_ : b 25 = true) => (show Kd.R Kd.string 9 w43 w.heap.size (fun _ => True) v279 y278 from by first | exact (Kd.R_elder' (by (with_reducible repeat (first | apply Kd.R_alloc | apply Kd.R_drewN | apply Kd.R_drew)); exact (Q_HO280 h0_)) (Kd.R_base ho44) hb) | exact Kd.R_mono (Kd.R_elder' (by (with_reducible repeat (first | apply Kd.R_alloc | apply Kd.R_drewN | apply Kd.R_drew)); exact (Q_HO280 h0_)) (Kd.R_base ho44) hb) (fun _ h_ => by first | trivial | exact h_ | exact h_.1))
                            clear HB
                            have HO276 := n0_
                            have HB := n1_
                            clear n0_ n1_
                            clear hb ho44
                            refine hK.out _ _ ⟨v275, v279, (by rw [ha.out]; exact putSel_upk 20 hb_ rfl rfl rfl), (by repeat (first | (with_reducible first | exact HB.out | apply below_alloc | apply pw_below_drewN | apply below_drew1) | exact HB.out)), fun _ => (by (with_reducible repeat (first | apply Kd.R_alloc | apply Kd.R_drewN | apply Kd.R_drew)); exact HO276.out), z_HO280⟩
                          refine steps_cons ?_ ?_
                          · rintro b a w' ⟨v275, v279, ha, Q_HB, Q_HO276, Q_HO280⟩ hb_ hon hoff
                            refine ⟨_, rfl, fun K hK => ?_⟩
                            have e45 : a.tmps[45]? = some (v275) := by rw [ha]; exact putSel_on (e := (21, 45, v275)) 20 rfl rfl (hon 21 (by kernel_rfl)) rfl
                            have e42 : a.tmps[42]? = some (.bool ((t271.extract 4 8).toList == (t272.extract 0 4).toList)) := by rw [ha]; exact putSel_on (e := (18, 42, .bool ((t271.extract 4 8).toList == (t272.extract 0 4).toList))) 17 rfl rfl (hon 18 (by kernel_rfl)) rfl
                            replace ha := Aside0.mk ha
                            have HB := Aside0.mk Q_HB
                            have HO276 := Aside0.mk (Q_HO276 (hon 21 (by kernel_rfl)))
                            obtain ⟨Ao45, co45, eo45⟩ := Kd.R_slice HO276.out
                            (first | subst eo45 | (injection eo45 with f1_ f2_ f3_; have f4_ := f1_.symm; have f5_ := f3_.symm; clear f1_ f2_ f3_; subst f4_; subst f5_))
                            refine goes_ Try.func12 (by kernel_rfl) rfl #[.slice Ao45 y274.length co45] (by first | exact wanted_on rfl rfl rfl (e42.trans (by first | rfl | (simp [*]; done))) | rfl) rfl rfl (by first | (simp only [List.map_toArray, List.map_cons, List.map_nil, Act.eval, Array.getD_eq_getD_getElem?, Option.getD_some, e45, e42]; done) | (simp only [List.map_toArray, List.map_cons, List.map_nil, Act.eval, Array.getD_eq_getD_getElem?, Option.getD_some, e45, e42]; rfl)) ?_
                            with_reducible refine (csum_Of.calls kj3 _ _ y274 t277 _ ?side1 ?side2 A20.out).mono ?_
                            (case side1 => repeat (first | exact (Kd.R_reads' HO276.out).2.2 | (with_reducible refine Kd.C_alloc ?_ _) | (with_reducible refine Kd.C_drewN ?_ _) | (with_reducible refine Kd.C_drew ?_)))
                            (case side2 => exact (Kd.R_reads' HO276.out).2.1)
                            rintro e w46 ⟨rfl, hb⟩
                            refine ⟨_, rfl, ?_⟩
                            have n0_ := Aside0.mk (Kd.R_below (by (with_reducible repeat (first | apply Kd.R_alloc | apply Kd.R_drewN | apply Kd.R_drew)); exact HO276.out) hb)
                            have n1_ := Aside0.mk (below_step (by repeat (first | (with_reducible first | exact HB.out | apply below_alloc | apply pw_below_drewN | apply below_drew1) | exact HB.out)) hb)
                            have z_HO280 := fun (h0_ : b 25 = true) => (show Kd.R Kd.string 9 w46 w.heap.size (fun _ => True) v279 y278 from by first | exact (Kd.R_below (by (with_reducible repeat (first | apply Kd.R_alloc | apply Kd.R_drewN | apply Kd.R_drew)); exact (Q_HO280 h0_)) hb) | exact Kd.R_mono (Kd.R_below (by (with_reducible repeat (first | apply Kd.R_alloc | apply Kd.R_drewN | apply Kd.R_drew)); exact (Q_HO280 h0_)) hb) (fun _ h_ => by first | trivial | exact h_ | exact h_.1))
                            clear HO276
                            clear HB
                            have HO276 := n0_
                            have HB := n1_
                            clear n0_ n1_
                            (try clear hb)
                            (try clear hb2)
                            (try clear hk)
                            (try clear hi)
                            refine hK.out _ _ ⟨.slice Ao45 y274.length co45, v279, (by rw [ha.out]; exact putSel_upk 21 hb_ rfl rfl rfl), (by repeat (first | (with_reducible first | exact HB.out | apply below_alloc | apply pw_below_drewN | apply below_drew1) | exact HB.out)), fun _ => (by (with_reducible repeat (first | apply Kd.R_alloc | apply Kd.R_drewN | apply Kd.R_drew)); exact HO276.out), z_HO280⟩
                          refine steps_cons ?_ ?_
                          · rintro b a w' ⟨v275, v279, ha, Q_HB, Q_HO276, Q_HO280⟩ hb_ hon hoff
                            refine ⟨_, rfl, fun K hK => ?_⟩
                            have e8 : a.tmps[8]? = some (.string t272) := by rw [ha]; exact (putSel_off rfl).trans rfl
                            have e42 : a.tmps[42]? = some (.bool ((t271.extract 4 8).toList == (t272.extract 0 4).toList)) := by rw [ha]; exact putSel_on (e := (18, 42, .bool ((t271.extract 4 8).toList == (t272.extract 0 4).toList))) 17 rfl rfl (hon 18 (by kernel_rfl)) rfl
                            replace ha := Aside0.mk ha
                            have HB := Aside0.mk Q_HB
                            refine value_ (w1 := w') (v := .string t272) (wanted_on rfl rfl rfl (e42.trans (by first | rfl | (simp [*]; done)))) rfl ?_ ?_
                            · go_simp
                              (try simp only [i64_w])
                              try rfl
                            refine hK.out _ _ ⟨v275, v279, (by rw [ha.out]; exact putSel_upk 22 hb_ rfl rfl rfl), Q_HB, Q_HO276, fun h0_ => absurd ((hoff 25 (by kernel_rfl)).symm.trans h0_) (by decide)⟩
                          refine steps_cons ?_ ?_
                          · rintro b a w' ⟨v275, v279, ha, Q_HB, Q_HO276, Q_HO280⟩ hb_ hon hoff
                            refine ⟨_, rfl, fun K hK => ?_⟩
                            have e2 : a.tmps[2]? = some (.string x2_3) := by rw [ha]; exact (putSel_off rfl).trans rfl
                            have e42 : a.tmps[42]? = some (.bool ((t271.extract 4 8).toList == (t272.extract 0 4).toList)) := by rw [ha]; exact putSel_on (e := (18, 42, .bool ((t271.extract 4 8).toList == (t272.extract 0 4).toList))) 17 rfl rfl (hon 18 (by kernel_rfl)) rfl
                            replace ha := Aside0.mk ha
                            have HB := Aside0.mk Q_HB
                            refine value_ (w1 := w') (v := .string x2_3) (wanted_on rfl rfl rfl (e42.trans (by first | rfl | (simp [*]; done)))) rfl ?_ ?_
                            · go_simp
                              (try simp only [i64_w])
                              try rfl
                            refine hK.out _ _ ⟨v275, v279, (by rw [ha.out]; exact putSel_upk 23 hb_ rfl rfl rfl), Q_HB, Q_HO276, fun h0_ => absurd ((hoff 25 (by kernel_rfl)).symm.trans h0_) (by decide)⟩
                          refine steps_cons ?_ ?_
                          · rintro b a w' ⟨v275, v279, ha, Q_HB, Q_HO276, Q_HO280⟩ hb_ hon hoff
                            refine ⟨_, rfl, fun K hK => ?_⟩
                            have e47 : a.tmps[47]? = some (.string t272) := by rw [ha]; exact putSel_on (e := (23, 47, .string t272)) 22 rfl rfl (hon 23 (by kernel_rfl)) rfl
                            have e48 : a.tmps[48]? = some (.string x2_3) := by rw [ha]; exact putSel_on (e := (24, 48, .string x2_3)) 23 rfl rfl (hon 24 (by kernel_rfl)) rfl
                            have e42 : a.tmps[42]? = some (.bool ((t271.extract 4 8).toList == (t272.extract 0 4).toList)) := by rw [ha]; exact putSel_on (e := (18, 42, .bool ((t271.extract 4 8).toList == (t272.extract 0 4).toList))) 17 rfl rfl (hon 18 (by kernel_rfl)) rfl
                            replace ha := Aside0.mk ha
                            have HB := Aside0.mk Q_HB
                            refine Kd.R_lit_step Kd.string _ 9 ?hg (N := 49) ?hd (xs := ([t272, x2_3] : List ByteArray)) (inner := [.string t272, .string x2_3]) (ok := fun _ => True) (okp := fun _ => True) ?hr ?hp (fun _ hk => hk) trivial (Below.refl _ _) (Nat.le_refl _) (by simp) ?_; (case hd => rfl); (case hg => first | exact wanted_on rfl rfl rfl (e42.trans (by first | rfl | (simp [*]; done))) | rfl); (case hr => first | (go_simp; done) | (go_simp; rfl)); (case hp => exact (Reps.one (show Kd.M Kd.string _ _ _ t272 [.string t272] from rfl) (Reps.one (show Kd.M Kd.string _ _ _ x2_3 [.string x2_3] from rfl) (Reps.none _ _))))
                            intro v279 w43 ho44 hb hg_ hnew_
                            clear hg_ hnew_
                            (first | rw [← Ny278.out] at ho44 | (simp only [Int.reduceToNat] at ho44; rw [← Ny278.out] at ho44))
                            have n0_ := Aside0.mk (Kd.R_lower ho44 (below_size (by repeat (first | (with_reducible first | exact HB.out | apply below_alloc | apply pw_below_drewN | apply below_drew1) | exact HB.out))))
                            have n1_ := Aside0.mk (below_step (by repeat (first | (with_reducible first | exact HB.out | apply below_alloc | apply pw_below_drewN | apply below_drew1) | exact HB.out)) hb)
                            have z_HO276 := fun (h0_ : b 21 = true) => (show Kd.R Kd.string 9 w43 w.heap.size (fun _ => True) v275 y274 from by first | exact (Kd.R_elder' (by (with_reducible repeat (first | apply Kd.R_alloc | apply Kd.R_drewN | apply Kd.R_drew)); exact (Q_HO276 h0_)) (Kd.R_base ho44) hb) | exact Kd.R_mono (Kd.R_elder' (by (with_reducible repeat (first | apply Kd.R_alloc | apply Kd.R_drewN | apply Kd.R_drew)); exact (Q_HO276 h0_)) (Kd.R_base ho44) hb) (fun _ h_ => by first | trivial | exact h_ | exact h_.1))
                            clear HB
                            have HO280 := n0_
                            have HB := n1_
                            clear n0_ n1_
                            clear hb ho44
                            refine hK.out _ _ ⟨v275, v279, (by rw [ha.out]; exact putSel_upk 24 hb_ rfl rfl rfl), (by repeat (first | (with_reducible first | exact HB.out | apply below_alloc | apply pw_below_drewN | apply below_drew1) | exact HB.out)), z_HO276, fun _ => (by (with_reducible repeat (first | apply Kd.R_alloc | apply Kd.R_drewN | apply Kd.R_drew)); exact HO280.out)⟩
                          refine steps_cons ?_ ?_
                          · rintro b a w' ⟨v275, v279, ha, Q_HB, Q_HO276, Q_HO280⟩ hb_ hon hoff
                            refine ⟨_, rfl, fun K hK => ?_⟩
                            have e49 : a.tmps[49]? = some (v279) := by rw [ha]; exact putSel_on (e := (25, 49, v279)) 24 rfl rfl (hon 25 (by kernel_rfl)) rfl
                            have e42 : a.tmps[42]? = some (.bool ((t271.extract 4 8).toList == (t272.extract 0 4).toList)) := by rw [ha]; exact putSel_on (e := (18, 42, .bool ((t271.extract 4 8).toList == (t272.extract 0 4).toList))) 17 rfl rfl (hon 18 (by kernel_rfl)) rfl
                            replace ha := Aside0.mk ha
                            have HB := Aside0.mk Q_HB
                            have HO276 := Aside0.mk (Q_HO276 (hon 21 (by kernel_rfl)))
                            have HO280 := Aside0.mk (Q_HO280 (hon 25 (by kernel_rfl)))
                            obtain ⟨Ao49, co49, eo49⟩ := Kd.R_slice HO280.out
                            (first | subst eo49 | (injection eo49 with f1_ f2_ f3_; have f4_ := f1_.symm; have f5_ := f3_.symm; clear f1_ f2_ f3_; subst f4_; subst f5_))
                            refine goes_ Try.func12 (by kernel_rfl) rfl #[.slice Ao49 y278.length co49] (by first | exact wanted_on rfl rfl rfl (e42.trans (by first | rfl | (simp [*]; done))) | rfl) rfl rfl (by first | (simp only [List.map_toArray, List.map_cons, List.map_nil, Act.eval, Array.getD_eq_getD_getElem?, Option.getD_some, e49, e42]; done) | (simp only [List.map_toArray, List.map_cons, List.map_nil, Act.eval, Array.getD_eq_getD_getElem?, Option.getD_some, e49, e42]; rfl)) ?_
                            with_reducible refine (csum_Of.calls kj3 _ _ y278 t281 _ ?side1 ?side2 A21.out).mono ?_
                            (case side1 => repeat (first | exact (Kd.R_reads' HO280.out).2.2 | (with_reducible refine Kd.C_alloc ?_ _) | (with_reducible refine Kd.C_drewN ?_ _) | (with_reducible refine Kd.C_drew ?_)))
                            (case side2 => exact (Kd.R_reads' HO280.out).2.1)
                            rintro e w50 ⟨rfl, hb⟩
                            refine ⟨_, rfl, ?_⟩
                            have n0_ := Aside0.mk (Kd.R_below (by (with_reducible repeat (first | apply Kd.R_alloc | apply Kd.R_drewN | apply Kd.R_drew)); exact HO276.out) hb)
                            have n1_ := Aside0.mk (Kd.R_below (by (with_reducible repeat (first | apply Kd.R_alloc | apply Kd.R_drewN | apply Kd.R_drew)); exact HO280.out) hb)
                            have n2_ := Aside0.mk (below_step (by repeat (first | (with_reducible first | exact HB.out | apply below_alloc | apply pw_below_drewN | apply below_drew1) | exact HB.out)) hb)
                            clear HO276
                            clear HO280
                            clear HB
                            have HO276 := n0_
                            have HO280 := n1_
                            have HB := n2_
                            clear n0_ n1_ n2_
                            (try clear hb)
                            (try clear hb2)
                            (try clear hk)
                            (try clear hi)
                            refine hK.out _ _ ⟨v275, .slice Ao49 y278.length co49, (by rw [ha.out]; exact putSel_upk 25 hb_ rfl rfl rfl), (by repeat (first | (with_reducible first | exact HB.out | apply below_alloc | apply pw_below_drewN | apply below_drew1) | exact HB.out)), fun _ => (by (with_reducible repeat (first | apply Kd.R_alloc | apply Kd.R_drewN | apply Kd.R_drew)); exact HO276.out), fun _ => (by (with_reducible repeat (first | apply Kd.R_alloc | apply Kd.R_drewN | apply Kd.R_drew)); exact HO280.out)⟩
                          refine steps_cons ?_ ?_
                          · rintro b a w' ⟨v275, v279, ha, Q_HB, Q_HO276, Q_HO280⟩ hb_ hon hoff
                            refine ⟨_, rfl, fun K hK => ?_⟩
                            have e46 : a.tmps[46]? = some (.int .i64 t277) := by rw [ha]; exact putSel_on (e := (22, 46, .int .i64 t277)) 21 rfl rfl (hon 22 (by kernel_rfl)) rfl
                            have e50 : a.tmps[50]? = some (.int .i64 t281) := by rw [ha]; exact putSel_on (e := (26, 50, .int .i64 t281)) 25 rfl rfl (hon 26 (by kernel_rfl)) rfl
                            have e42 : a.tmps[42]? = some (.bool ((t271.extract 4 8).toList == (t272.extract 0 4).toList)) := by rw [ha]; exact putSel_on (e := (18, 42, .bool ((t271.extract 4 8).toList == (t272.extract 0 4).toList))) 17 rfl rfl (hon 18 (by kernel_rfl)) rfl
                            replace ha := Aside0.mk ha
                            have HB := Aside0.mk Q_HB
                            have HO276 := Aside0.mk (Q_HO276 (hon 21 (by kernel_rfl)))
                            have HO280 := Aside0.mk (Q_HO280 (hon 25 (by kernel_rfl)))
                            refine value_ (w1 := w') (v := .bool (t277 == t281)) (wanted_on rfl rfl rfl (e42.trans (by first | rfl | (simp [*]; done)))) rfl ?_ ?_
                            · go_simp
                              (try simp only [i64_w])
                              try rfl
                            refine hK.out _ _ ⟨v275, v279, (by rw [ha.out]; exact putSel_upk 26 hb_ rfl rfl rfl), Q_HB, Q_HO276, Q_HO280⟩
                          refine steps_cons ?_ ?_
                          · rintro b a w' ⟨v275, v279, ha, Q_HB, Q_HO276, Q_HO280⟩ hb_ hon hoff
                            refine ⟨_, rfl, fun K hK => ?_⟩
                            have e42 : a.tmps[42]? = some (.bool ((t271.extract 4 8).toList == (t272.extract 0 4).toList)) := by rw [ha]; exact putSel_on (e := (18, 42, .bool ((t271.extract 4 8).toList == (t272.extract 0 4).toList))) 17 rfl rfl (hon 18 (by kernel_rfl)) rfl
                            have e51 : a.tmps[51]? = some (.bool (t277 == t281)) := by rw [ha]; exact putSel_on (e := (27, 51, .bool (t277 == t281))) 26 rfl rfl (hon 27 (by kernel_rfl)) rfl
                            replace ha := Aside0.mk ha
                            have HB := Aside0.mk Q_HB
                            have HO276 := Aside0.mk (Q_HO276 (hon 21 (by kernel_rfl)))
                            have HO280 := Aside0.mk (Q_HO280 (hon 25 (by kernel_rfl)))
                            refine value_ (w1 := w') (v := .bool (t277 == t281)) (by rfl) rfl ?_ ?_
                            · go_simp
                              (try simp only [i64_w])
                              try rfl
                            refine hK.out _ _ ⟨v275, v279, (by rw [ha.out]; exact putSel_upk 27 hb_ rfl rfl rfl), Q_HB, Q_HO276, Q_HO280⟩
                          refine steps_cons ?_ ?_
                          · rintro b a w' ⟨v275, v279, ha, Q_HB, Q_HO276, Q_HO280⟩ hb_ hon hoff
                            refine ⟨_, rfl, fun K hK => ?_⟩
                            have e52 : a.tmps[52]? = some (.bool (t277 == t281)) := by rw [ha]; exact putSel_on (e := (28, 52, .bool (t277 == t281))) 27 rfl rfl (hon 28 (by kernel_rfl)) rfl
                            replace ha := Aside0.mk ha
                            have HB := Aside0.mk Q_HB
                            have HO276 := Aside0.mk (Q_HO276 (hon 21 (by kernel_rfl)))
                            have HO280 := Aside0.mk (Q_HO280 (hon 25 (by kernel_rfl)))
                            refine value_ (w1 := w') (v := .bool (t277 == t281)) (by rfl) rfl ?_ ?_
                            · go_simp
                              (try simp only [i64_w])
                              try rfl
                            refine hK.out _ _ ⟨v275, v279, (by rw [ha.out]; exact putSel_upk 28 hb_ rfl rfl rfl), Q_HB, Q_HO276, Q_HO280⟩
                          refine steps_cons ?_ ?_
                          · rintro b a w' ⟨v275, v279, ha, Q_HB, Q_HO276, Q_HO280⟩ hb_ hon hoff
                            refine ⟨_, rfl, fun K hK => ?_⟩
                            have e53 : a.tmps[53]? = some (.bool (t277 == t281)) := by rw [ha]; exact putSel_on (e := (29, 53, .bool (t277 == t281))) 28 rfl rfl (hon 29 (by kernel_rfl)) rfl
                            replace ha := Aside0.mk ha
                            have HB := Aside0.mk Q_HB
                            have HO276 := Aside0.mk (Q_HO276 (hon 21 (by kernel_rfl)))
                            have HO280 := Aside0.mk (Q_HO280 (hon 25 (by kernel_rfl)))
                            refine off_ (wanted_off rfl rfl rfl (e53.trans (by first | rfl | (simp [*]; done)))) ?_
                            refine hK.out _ _ ⟨v275, v279, (by rw [ha.out]; exact putSel_upk 29 hb_ rfl rfl rfl), Q_HB, Q_HO276, Q_HO280⟩
                          refine steps_cons ?_ ?_
                          · rintro b a w' ⟨v275, v279, ha, Q_HB, Q_HO276, Q_HO280⟩ hb_ hon hoff
                            refine ⟨_, rfl, fun K hK => ?_⟩
                            have e53 : a.tmps[53]? = some (.bool (t277 == t281)) := by rw [ha]; exact putSel_on (e := (29, 53, .bool (t277 == t281))) 28 rfl rfl (hon 29 (by kernel_rfl)) rfl
                            have e54 : a.tmps[54]? = some (undef) := by rw [ha]; exact putSel_on (e := (30, 54, undef)) 29 rfl rfl (hon 30 (by kernel_rfl)) rfl
                            replace ha := Aside0.mk ha
                            have HB := Aside0.mk Q_HB
                            have HO276 := Aside0.mk (Q_HO276 (hon 21 (by kernel_rfl)))
                            have HO280 := Aside0.mk (Q_HO280 (hon 25 (by kernel_rfl)))
                            refine value_ (w1 := w') (v := .bool false) (by rfl) rfl ?_ ?_
                            · go_simp
                              (try simp only [i64_w])
                              try rfl
                            refine hK.out _ _ ⟨v275, v279, (by rw [ha.out]; exact putSel_upk 30 hb_ rfl rfl rfl), Q_HB, Q_HO276, Q_HO280⟩
                          refine steps_cons ?_ ?_
                          · rintro b a w' ⟨v275, v279, ha, Q_HB, Q_HO276, Q_HO280⟩ hb_ hon hoff
                            refine ⟨_, rfl, fun K hK => ?_⟩
                            have e55 : a.tmps[55]? = some (.bool false) := by rw [ha]; exact putSel_on (e := (31, 55, .bool false)) 30 rfl rfl (hon 31 (by kernel_rfl)) rfl
                            replace ha := Aside0.mk ha
                            have HB := Aside0.mk Q_HB
                            have HO276 := Aside0.mk (Q_HO276 (hon 21 (by kernel_rfl)))
                            have HO280 := Aside0.mk (Q_HO280 (hon 25 (by kernel_rfl)))
                            refine value_ (w1 := w') (v := .bool false) (by rfl) rfl ?_ ?_
                            · go_simp
                              (try simp only [i64_w])
                              try rfl
                            refine hK.out _ _ ⟨v275, v279, (by rw [ha.out]; exact putSel_upk 31 hb_ rfl rfl rfl), Q_HB, Q_HO276, Q_HO280⟩
                          exact steps_nil
                        rintro b a w50 hall ⟨v275, v279, ha, Q_HB, Q_HO276, Q_HO280⟩
                        clear HB
                        have hb1_ := hall 1 (by kernel_rfl)
                        have hb2_ := hall 2 (by kernel_rfl)
                        have hb3_ := hall 3 (by kernel_rfl)
                        have hb4_ := hall 4 (by kernel_rfl)
                        have hb5_ := hall 5 (by kernel_rfl)
                        have hb6_ := hall 6 (by kernel_rfl)
                        have hb7_ := hall 7 (by kernel_rfl)
                        have hb8_ := hall 8 (by kernel_rfl)
                        have hb9_ := hall 9 (by kernel_rfl)
                        have hb10_ := hall 10 (by kernel_rfl)
                        have hb11_ := hall 11 (by kernel_rfl)
                        have hb12_ := hall 12 (by kernel_rfl)
                        have hb13_ := hall 13 (by kernel_rfl)
                        have hb14_ := hall 14 (by kernel_rfl)
                        have hb15_ := hall 15 (by kernel_rfl)
                        have hb16_ := hall 16 (by kernel_rfl)
                        have hb17_ := hall 17 (by kernel_rfl)
                        have hb18_ := hall 18 (by kernel_rfl)
                        have hb19_ := hall 19 (by kernel_rfl)
                        have hb20_ := hall 20 (by kernel_rfl)
                        have hb21_ := hall 21 (by kernel_rfl)
                        have hb22_ := hall 22 (by kernel_rfl)
                        have hb23_ := hall 23 (by kernel_rfl)
                        have hb24_ := hall 24 (by kernel_rfl)
                        have hb25_ := hall 25 (by kernel_rfl)
                        have hb26_ := hall 26 (by kernel_rfl)
                        have hb27_ := hall 27 (by kernel_rfl)
                        have hb28_ := hall 28 (by kernel_rfl)
                        have hb29_ := hall 29 (by kernel_rfl)
                        have hb30_ := hall 30 (by kernel_rfl)
                        have hb31_ := hall 31 (by kernel_rfl)
                        have hb32_ := hall 32 (by kernel_rfl)
                        subst ha
                        simp only [putSel, hb1_, hb2_, hb3_, hb4_, hb5_, hb6_, hb7_, hb8_, hb9_, hb10_, hb11_, hb12_, hb13_, hb14_, hb15_, hb16_, hb17_, hb18_, hb19_, hb20_, hb21_, hb22_, hb23_, hb24_, hb25_, hb26_, hb27_, hb28_, hb29_, hb30_, hb31_, hb32_, if_true, Act.put, List.setIfInBounds_toArray, List.set_cons_zero, List.set_cons_succ]
                        have HB := Aside0.mk Q_HB
                        clear Q_HB
                        have HO276 := Aside0.mk (Q_HO276 hb21_)
                        clear Q_HO276
                        have HO280 := Aside0.mk (Q_HO280 hb25_)
                        clear Q_HO280
                        clear hall hb1_ hb2_ hb3_ hb4_ hb5_ hb6_ hb7_ hb8_ hb9_ hb10_ hb11_ hb12_ hb13_ hb14_ hb15_ hb16_ hb17_ hb18_ hb19_ hb20_ hb21_ hb22_ hb23_ hb24_ hb25_ hb26_ hb27_ hb28_ hb29_ hb30_ hb31_ hb32_
                        try go_wp2
                        go_ret
                        exact ⟨by first | rfl | (simp [errW_none, errW_some] <;> rfl) | (simp [*, errW_none, errW_some] <;> rfl), by repeat (first | (with_reducible first | exact HB.out | apply below_alloc | apply pw_below_drewN | apply below_drew1) | exact HB.out)⟩
                    · rw [if_neg c19] at H
                      have c19b0 : ((t271.extract 4 8).toList == (t272.extract 0 4).toList) = false := beq_eq_false_iff_ne.mpr c19
                      have c19b1 : ((t271.extract 4 8).toList != (t272.extract 0 4).toList) = true := bne_iff_ne.mpr c19
                      obtain rfl := Option.some.inj H
                      try go_wp2_with (first | ((with_reducible refine gate_callee (f := 17) rfl ?_); refine goesL_ (some 18) rfl rfl Try.func17 (by kernel_rfl) rfl #[.int .u32 a0, .int .u32 a1, .int .i64 17, .int .i64 (x2_3.size : Int)] rfl (by (try simp only [List.map_toArray, List.map_cons, List.map_nil]); first | done | rfl | (simp only [List.length_drop, List.length_take]; rfl)) ?_; (with_reducible refine (csum_Head.calls kj3 a0 a1 17 (x2_3.size : Int) t271 _ A8.out).mono ?_); rintro e w51 ⟨rfl, hb⟩; refine ⟨_, rfl, ?_⟩; have n0_ := Aside0.mk (below_step (by repeat (first | (with_reducible first | exact HB.out | apply below_alloc | apply pw_below_drewN | apply below_drew1) | exact HB.out)) hb); clear HB; have HB := n0_; clear n0_; (try clear hb); (try clear hb2); (try clear hk); (try clear hi)) | ((with_reducible refine gate_callee (f := 17) rfl ?_); refine goesL_ (some 23) rfl rfl Try.func17 (by kernel_rfl) rfl #[.int .u32 a1, .int .u32 a0, .int .i64 17, .int .i64 (x2_3.size : Int)] rfl (by (try simp only [List.map_toArray, List.map_cons, List.map_nil]); first | done | rfl | (simp only [List.length_drop, List.length_take]; rfl)) ?_; (with_reducible refine (csum_Head.calls kj3 a1 a0 17 (x2_3.size : Int) t272 _ A9.out).mono ?_); rintro e w52 ⟨rfl, hb⟩; refine ⟨_, rfl, ?_⟩; have n0_ := Aside0.mk (below_step (by repeat (first | (with_reducible first | exact HB.out | apply below_alloc | apply pw_below_drewN | apply below_drew1) | exact HB.out)) hb); clear HB; have HB := n0_; clear n0_; (try clear hb); (try clear hb2); (try clear hk); (try clear hi)))
                      have n0_ := Aside0.mk (below_drew1 HB.out)
                      clear HB
                      have HB := n0_
                      clear n0_
                      refine start_ (n := 33) (S := fun w' => True) (ds := []) #[false, false, false, false, false, false, false, false, false, false, false, false, false, false, false, false, false, false, false, false, false, false, false, false, false, false, false, false, false, false, false, false, false] (by kernel_rfl) rfl rfl trivial (fun hHeld => ?_); refine with_tabW gangwaylaw03_CsumPseudo.tab3 gangwaylaw03_CsumPseudo.bits3 (fun HT_ HW_ => ?_)
                      generalize w52.drew = w53 at HB hHeld ⊢
                      refine pure_ (i := 0) (N := some 24) (v := ?_) (a' := ?_) #[true, false, false, false, false, false, false, false, false, false, false, false, false, false, false, false, false, false, false, false, false, false, false, false, false, false, false, false, false, false, false, false, false] rfl rfl (any_of HT_.out (by kernel_rfl)) (fun _ _ _ h => h) (Or.inl ⟨by rfl, ?_⟩) ?_ ?_
                      rotate_left
                      · intro w'
                        go_simp
                        first | with_reducible rfl | (rw [if_neg (by (try simp only [decide_eq_true_eq, ByteArray.size_append, ByteArray.size_extract, eq_iff_iff, iff_true, iff_false, Nat.not_lt] at *); omega)]; try with_reducible rfl)
                      rotate_left
                      · simp only [Act.put, List.setIfInBounds_toArray, List.set_cons_zero, List.set_cons_succ, i64_w, i32_w]
                        rfl
                      refine pure_ (i := 1) (N := some 25) (v := ?_) (a' := ?_) #[true, true, false, false, false, false, false, false, false, false, false, false, false, false, false, false, false, false, false, false, false, false, false, false, false, false, false, false, false, false, false, false, false] rfl rfl (any_of HT_.out (by kernel_rfl)) (fun _ _ _ h => h) (Or.inl ⟨by rfl, ?_⟩) ?_ ?_
                      rotate_left
                      · intro w'
                        go_simp
                        first | with_reducible rfl | (rw [if_neg (by (try simp only [decide_eq_true_eq, ByteArray.size_append, ByteArray.size_extract, eq_iff_iff, iff_true, iff_false, Nat.not_lt] at *); omega)]; try with_reducible rfl)
                      rotate_left
                      · simp only [Act.put, List.setIfInBounds_toArray, List.set_cons_zero, List.set_cons_succ, i64_w, i32_w]
                        rfl
                      refine pure_ (i := 2) (N := some 26) (v := ?_) (a' := ?_) #[true, true, true, false, false, false, false, false, false, false, false, false, false, false, false, false, false, false, false, false, false, false, false, false, false, false, false, false, false, false, false, false, false] rfl rfl (any_of HT_.out (by kernel_rfl)) (fun _ _ _ h => h) (Or.inl ⟨by rfl, ?_⟩) ?_ ?_
                      rotate_left
                      · intro w'
                        go_simp
                        first | with_reducible rfl | (rw [if_neg (by (try simp only [decide_eq_true_eq, ByteArray.size_append, ByteArray.size_extract, eq_iff_iff, iff_true, iff_false, Nat.not_lt] at *); omega)]; try with_reducible rfl)
                      rotate_left
                      · simp only [Act.put, List.setIfInBounds_toArray, List.set_cons_zero, List.set_cons_succ, i64_w, i32_w]
                        rfl
                      refine pure_ (i := 3) (N := some 27) (v := ?_) (a' := ?_) #[true, true, true, true, false, false, false, false, false, false, false, false, false, false, false, false, false, false, false, false, false, false, false, false, false, false, false, false, false, false, false, false, false] rfl rfl (any_of HT_.out (by kernel_rfl)) (fun _ _ _ h => h) (Or.inl ⟨by rfl, ?_⟩) ?_ ?_
                      rotate_left
                      · intro w'
                        go_simp
                        first | with_reducible rfl | (rw [if_neg (by (try simp only [decide_eq_true_eq, ByteArray.size_append, ByteArray.size_extract, eq_iff_iff, iff_true, iff_false, Nat.not_lt] at *); omega)]; try with_reducible rfl)
                      rotate_left
                      · simp only [Act.put, List.setIfInBounds_toArray, List.set_cons_zero, List.set_cons_succ, i64_w, i32_w]
                        rfl
                      refine pure_ (i := 4) (N := some 28) (v := ?_) (a' := ?_) #[true, true, true, true, true, false, false, false, false, false, false, false, false, false, false, false, false, false, false, false, false, false, false, false, false, false, false, false, false, false, false, false, false] rfl rfl (any_of HT_.out (by kernel_rfl)) (fun _ _ _ h => h) (Or.inl ⟨by rfl, ?_⟩) ?_ ?_
                      rotate_left
                      · intro w'
                        go_simp
                        first | with_reducible rfl | (rw [if_neg (by (try simp only [decide_eq_true_eq, ByteArray.size_append, ByteArray.size_extract, eq_iff_iff, iff_true, iff_false, Nat.not_lt] at *); omega)]; try with_reducible rfl)
                      rotate_left
                      · simp only [Act.put, List.setIfInBounds_toArray, List.set_cons_zero, List.set_cons_succ, i64_w, i32_w]
                        rfl
                      refine pure_ (i := 5) (N := some 29) (v := ?_) (a' := ?_) #[true, true, true, true, true, true, false, false, false, false, false, false, false, false, false, false, false, false, false, false, false, false, false, false, false, false, false, false, false, false, false, false, false] rfl rfl (any_of HT_.out (by kernel_rfl)) (fun _ _ _ h => h) (Or.inl ⟨by rfl, ?_⟩) ?_ ?_
                      rotate_left
                      · intro w'
                        go_simp
                        first | with_reducible rfl | (rw [if_neg (by (try simp only [decide_eq_true_eq, ByteArray.size_append, ByteArray.size_extract, eq_iff_iff, iff_true, iff_false, Nat.not_lt] at *); omega)]; try with_reducible rfl)
                      rotate_left
                      · simp only [Act.put, List.setIfInBounds_toArray, List.set_cons_zero, List.set_cons_succ, i64_w, i32_w]
                        rfl
                      refine pure_ (i := 6) (N := some 30) (v := ?_) (a' := ?_) #[true, true, true, true, true, true, true, false, false, false, false, false, false, false, false, false, false, false, false, false, false, false, false, false, false, false, false, false, false, false, false, false, false] rfl rfl (any_of HT_.out (by kernel_rfl)) (fun _ _ _ h => h) (Or.inl ⟨by rfl, ?_⟩) ?_ ?_
                      rotate_left
                      · intro w'
                        go_simp
                        first | with_reducible rfl | (rw [if_neg (by (try simp only [decide_eq_true_eq, ByteArray.size_append, ByteArray.size_extract, eq_iff_iff, iff_true, iff_false, Nat.not_lt] at *); omega)]; try with_reducible rfl)
                      rotate_left
                      · simp only [Act.put, List.setIfInBounds_toArray, List.set_cons_zero, List.set_cons_succ, i64_w, i32_w]
                        rfl
                      refine pure_ (i := 7) (N := some 31) (v := ?_) (a' := ?_) #[true, true, true, true, true, true, true, true, false, false, false, false, false, false, false, false, false, false, false, false, false, false, false, false, false, false, false, false, false, false, false, false, false] rfl rfl (any_of HT_.out (by kernel_rfl)) (fun _ _ _ h => h) (Or.inl ⟨by rfl, ?_⟩) ?_ ?_
                      rotate_left
                      · intro w'
                        go_simp
                        first | with_reducible rfl | (rw [if_neg (by (try simp only [decide_eq_true_eq, ByteArray.size_append, ByteArray.size_extract, eq_iff_iff, iff_true, iff_false, Nat.not_lt] at *); omega)]; try with_reducible rfl)
                      rotate_left
                      · simp only [Act.put, List.setIfInBounds_toArray, List.set_cons_zero, List.set_cons_succ, i64_w, i32_w]
                        rfl
                      refine one_ (i := 8) (N := some 32) #[true, true, true, true, true, true, true, true, true, false, false, false, false, false, false, false, false, false, false, false, false, false, false, false, false, false, false, false, false, false, false, false, false] rfl rfl (one_of HT_.out (by kernel_rfl)) (by decide) (fun K hK => ?_)
                      refine goes_ Try.func19 (by kernel_rfl) rfl #[.int .u64 (IntKind.u64.wrap (a0)), .int .i64 4] (by rfl) rfl rfl (by (try simp only [List.map_toArray, List.map_cons, List.map_nil]); first | done | rfl | (simp only [List.length_drop, List.length_take]; rfl)) ?_
                      with_reducible refine (gangwayref01_Bytes.calls kj3 (IntKind.u64.wrap (a0)) 4 t273 _ A13.out).mono ?_
                      rintro e w54 ⟨rfl, hb⟩
                      refine ⟨_, rfl, ?_⟩
                      have n0_ := Aside0.mk (below_step (by repeat (first | (with_reducible first | exact HB.out | apply below_alloc | apply pw_below_drewN | apply below_drew1) | exact HB.out)) hb)
                      clear HB
                      have HB := n0_
                      clear n0_
                      (try clear hb)
                      (try clear hb2)
                      (try clear hk)
                      (try clear hi)
                      refine hK.out _ _ trivial (fun hHeld => ?_)
                      clear hK K
                      refine norm_ (a' := ?_) ?_ ?_
                      rotate_left
                      · show Act.put _ (some 32) _ = _
                        simp only [Act.put, List.setIfInBounds_toArray, List.set_cons_zero, List.set_cons_succ, i64_w, i32_w]
                        rfl
                      refine pure_ (i := 9) (N := some 33) (v := ?_) (a' := ?_) #[true, true, true, true, true, true, true, true, true, true, false, false, false, false, false, false, false, false, false, false, false, false, false, false, false, false, false, false, false, false, false, false, false] rfl rfl (any_of HT_.out (by kernel_rfl)) (fun _ _ _ h => h) (Or.inl ⟨by rfl, ?_⟩) ?_ ?_
                      rotate_left
                      · intro w'
                        go_simp
                        first | with_reducible rfl | (rw [if_neg (by (try simp only [decide_eq_true_eq, ByteArray.size_append, ByteArray.size_extract, eq_iff_iff, iff_true, iff_false, Nat.not_lt] at *); omega)]; try with_reducible rfl)
                      rotate_left
                      · simp only [Act.put, List.setIfInBounds_toArray, List.set_cons_zero, List.set_cons_succ, i64_w, i32_w]
                        rfl
                      refine pure_ (i := 10) (N := some 34) (v := ?_) (a' := ?_) #[true, true, true, true, true, true, true, true, true, true, true, false, false, false, false, false, false, false, false, false, false, false, false, false, false, false, false, false, false, false, false, false, false] rfl rfl (any_of HT_.out (by kernel_rfl)) (fun _ _ _ h => h) (Or.inl ⟨by rfl, ?_⟩) ?_ ?_
                      rotate_left
                      · intro w'
                        go_simp
                        first | with_reducible rfl | (rw [if_neg (by (try simp only [decide_eq_true_eq, ByteArray.size_append, ByteArray.size_extract, eq_iff_iff, iff_true, iff_false, Nat.not_lt] at *); omega)]; try with_reducible rfl)
                      rotate_left
                      · simp only [Act.put, List.setIfInBounds_toArray, List.set_cons_zero, List.set_cons_succ, i64_w, i32_w]
                        rfl
                      refine pure_ (i := 11) (N := some 35) (v := ?_) (a' := ?_) #[true, true, true, true, true, true, true, true, true, true, true, true, false, false, false, false, false, false, false, false, false, false, false, false, false, false, false, false, false, false, false, false, false] rfl rfl (any_of HT_.out (by kernel_rfl)) (fun _ _ _ h => h) (Or.inl ⟨by rfl, ?_⟩) ?_ ?_
                      rotate_left
                      · intro w'
                        go_simp
                        first | with_reducible rfl | (rw [if_neg (by (try simp only [decide_eq_true_eq, ByteArray.size_append, ByteArray.size_extract, eq_iff_iff, iff_true, iff_false, Nat.not_lt] at *); omega)]; try with_reducible rfl)
                      rotate_left
                      · simp only [Act.put, List.setIfInBounds_toArray, List.set_cons_zero, List.set_cons_succ, i64_w, i32_w]
                        rfl
                      refine pure_ (i := 12) (N := some 36) (v := ?_) (a' := ?_) #[true, true, true, true, true, true, true, true, true, true, true, true, true, false, false, false, false, false, false, false, false, false, false, false, false, false, false, false, false, false, false, false, false] rfl rfl (any_of HT_.out (by kernel_rfl)) (fun _ _ _ h => h) (Or.inl ⟨by rfl, ?_⟩) ?_ ?_
                      rotate_left
                      · intro w'
                        go_simp
                        first | with_reducible rfl | (rw [if_neg (by (try simp only [decide_eq_true_eq, ByteArray.size_append, ByteArray.size_extract, eq_iff_iff, iff_true, iff_false, Nat.not_lt] at *); omega)]; try with_reducible rfl)
                      rotate_left
                      · simp only [Act.put, List.setIfInBounds_toArray, List.set_cons_zero, List.set_cons_succ, i64_w, i32_w]
                        rfl
                      refine pure_ (i := 13) (N := some 37) (v := ?_) (a' := ?_) #[true, true, true, true, true, true, true, true, true, true, true, true, true, true, false, false, false, false, false, false, false, false, false, false, false, false, false, false, false, false, false, false, false] rfl rfl (any_of HT_.out (by kernel_rfl)) (fun _ _ _ h => h) (Or.inl ⟨by rfl, ?_⟩) ?_ ?_
                      rotate_left
                      · intro w'
                        go_simp
                        first | with_reducible rfl | (rw [if_neg (by (try simp only [decide_eq_true_eq, ByteArray.size_append, ByteArray.size_extract, eq_iff_iff, iff_true, iff_false, Nat.not_lt] at *); omega)]; try with_reducible rfl)
                      rotate_left
                      · simp only [Act.put, List.setIfInBounds_toArray, List.set_cons_zero, List.set_cons_succ, i64_w, i32_w]
                        rfl
                      refine pure_ (i := 14) (N := some 38) (v := ?_) (a' := ?_) #[true, true, true, true, true, true, true, true, true, true, true, true, true, true, true, false, false, false, false, false, false, false, false, false, false, false, false, false, false, false, false, false, false] rfl rfl (any_of HT_.out (by kernel_rfl)) (fun _ _ _ h => h) (Or.inl ⟨by rfl, ?_⟩) ?_ ?_
                      rotate_left
                      · intro w'
                        go_simp
                        first | with_reducible rfl | (rw [if_neg (by (try simp only [decide_eq_true_eq, ByteArray.size_append, ByteArray.size_extract, eq_iff_iff, iff_true, iff_false, Nat.not_lt] at *); omega)]; try with_reducible rfl)
                      rotate_left
                      · simp only [Act.put, List.setIfInBounds_toArray, List.set_cons_zero, List.set_cons_succ, i64_w, i32_w]
                        rfl
                      refine pure_ (i := 15) (N := some 39) (v := ?_) (a' := ?_) #[true, true, true, true, true, true, true, true, true, true, true, true, true, true, true, true, false, false, false, false, false, false, false, false, false, false, false, false, false, false, false, false, false] rfl rfl (any_of HT_.out (by kernel_rfl)) (fun _ _ _ h => h) (Or.inl ⟨by rfl, ?_⟩) ?_ ?_
                      rotate_left
                      · intro w'
                        go_simp
                        first | with_reducible rfl | (rw [if_neg (by (try simp only [decide_eq_true_eq, ByteArray.size_append, ByteArray.size_extract, eq_iff_iff, iff_true, iff_false, Nat.not_lt] at *); omega)]; try with_reducible rfl)
                      rotate_left
                      · simp only [Act.put, List.setIfInBounds_toArray, List.set_cons_zero, List.set_cons_succ, i64_w, i32_w]
                        rfl
                      refine pure_ (i := 16) (N := some 40) (v := ?_) (a' := ?_) #[true, true, true, true, true, true, true, true, true, true, true, true, true, true, true, true, true, false, false, false, false, false, false, false, false, false, false, false, false, false, false, false, false] rfl rfl (any_of HT_.out (by kernel_rfl)) (fun _ _ _ h => h) (Or.inl ⟨by rfl, ?_⟩) ?_ ?_
                      rotate_left
                      · intro w'
                        go_simp
                        first | with_reducible rfl | (rw [if_neg (by (try simp only [decide_eq_true_eq, ByteArray.size_append, ByteArray.size_extract, eq_iff_iff, iff_true, iff_false, Nat.not_lt] at *); omega)]; try with_reducible rfl)
                      rotate_left
                      · simp only [Act.put, List.setIfInBounds_toArray, List.set_cons_zero, List.set_cons_succ, i64_w, i32_w]
                        rfl
                      refine pure_ (i := 17) (N := some 41) (v := ?_) (a' := ?_) #[true, true, true, true, true, true, true, true, true, true, true, true, true, true, true, true, true, true, false, false, false, false, false, false, false, false, false, false, false, false, false, false, false] rfl rfl (any_of HT_.out (by kernel_rfl)) (fun _ _ _ h => h) (Or.inl ⟨by rfl, ?_⟩) ?_ ?_
                      rotate_left
                      · intro w'
                        go_simp
                        first | with_reducible rfl | (rw [if_neg (by (try simp only [decide_eq_true_eq, ByteArray.size_append, ByteArray.size_extract, eq_iff_iff, iff_true, iff_false, Nat.not_lt] at *); omega)]; try with_reducible rfl)
                      rotate_left
                      · simp only [Act.put, List.setIfInBounds_toArray, List.set_cons_zero, List.set_cons_succ, i64_w, i32_w]
                        rfl
                      refine pure_ (i := 18) (N := some 42) (v := ?_) (a' := ?_) #[true, true, true, true, true, true, true, true, true, true, true, true, true, true, true, true, true, true, true, false, false, false, false, false, false, false, false, false, false, false, false, false, false] rfl rfl (any_of HT_.out (by kernel_rfl)) (fun _ _ _ h => h) (Or.inl ⟨by rfl, ?_⟩) ?_ ?_
                      rotate_left
                      · intro w'
                        go_simp
                        first | with_reducible rfl | (rw [if_neg (by (try simp only [decide_eq_true_eq, ByteArray.size_append, ByteArray.size_extract, eq_iff_iff, iff_true, iff_false, Nat.not_lt] at *); omega)]; try with_reducible rfl)
                      rotate_left
                      · simp only [Act.put, List.setIfInBounds_toArray, List.set_cons_zero, List.set_cons_succ, i64_w, i32_w]
                        rfl
                      refine pure_ (i := 19) (N := some 43) (v := undef) (a' := ?_) #[true, true, true, true, true, true, true, true, true, true, true, true, true, true, true, true, true, true, true, true, false, false, false, false, false, false, false, false, false, false, false, false, false] rfl rfl (any_of HT_.out (by kernel_rfl)) (fun _ _ _ h => h) (Or.inr ⟨by rfl, rfl⟩) ?_ ?_
                      rotate_left
                      · simp only [Act.put, List.setIfInBounds_toArray, List.set_cons_zero, List.set_cons_succ, i64_w, i32_w]
                        rfl
                      refine pure_ (i := 20) (N := some 44) (v := undef) (a' := ?_) #[true, true, true, true, true, true, true, true, true, true, true, true, true, true, true, true, true, true, true, true, true, false, false, false, false, false, false, false, false, false, false, false, false] rfl rfl (any_of HT_.out (by kernel_rfl)) (fun _ _ _ h => h) (Or.inr ⟨by rfl, rfl⟩) ?_ ?_
                      rotate_left
                      · simp only [Act.put, List.setIfInBounds_toArray, List.set_cons_zero, List.set_cons_succ, i64_w, i32_w]
                        rfl
                      refine pure_ (i := 21) (N := some 45) (v := undef) (a' := ?_) #[true, true, true, true, true, true, true, true, true, true, true, true, true, true, true, true, true, true, true, true, true, true, false, false, false, false, false, false, false, false, false, false, false] rfl rfl (any_of HT_.out (by kernel_rfl)) (fun _ _ _ h => h) (Or.inr ⟨by rfl, rfl⟩) ?_ ?_
                      rotate_left
                      · simp only [Act.put, List.setIfInBounds_toArray, List.set_cons_zero, List.set_cons_succ, i64_w, i32_w]
                        rfl
                      refine pure_ (i := 22) (N := some 46) (v := undef) (a' := ?_) #[true, true, true, true, true, true, true, true, true, true, true, true, true, true, true, true, true, true, true, true, true, true, true, false, false, false, false, false, false, false, false, false, false] rfl rfl (any_of HT_.out (by kernel_rfl)) (fun _ _ _ h => h) (Or.inr ⟨by rfl, rfl⟩) ?_ ?_
                      rotate_left
                      · simp only [Act.put, List.setIfInBounds_toArray, List.set_cons_zero, List.set_cons_succ, i64_w, i32_w]
                        rfl
                      refine pure_ (i := 23) (N := some 47) (v := undef) (a' := ?_) #[true, true, true, true, true, true, true, true, true, true, true, true, true, true, true, true, true, true, true, true, true, true, true, true, false, false, false, false, false, false, false, false, false] rfl rfl (any_of HT_.out (by kernel_rfl)) (fun _ _ _ h => h) (Or.inr ⟨by rfl, rfl⟩) ?_ ?_
                      rotate_left
                      · simp only [Act.put, List.setIfInBounds_toArray, List.set_cons_zero, List.set_cons_succ, i64_w, i32_w]
                        rfl
                      refine pure_ (i := 24) (N := some 48) (v := undef) (a' := ?_) #[true, true, true, true, true, true, true, true, true, true, true, true, true, true, true, true, true, true, true, true, true, true, true, true, true, false, false, false, false, false, false, false, false] rfl rfl (any_of HT_.out (by kernel_rfl)) (fun _ _ _ h => h) (Or.inr ⟨by rfl, rfl⟩) ?_ ?_
                      rotate_left
                      · simp only [Act.put, List.setIfInBounds_toArray, List.set_cons_zero, List.set_cons_succ, i64_w, i32_w]
                        rfl
                      refine pure_ (i := 25) (N := some 49) (v := undef) (a' := ?_) #[true, true, true, true, true, true, true, true, true, true, true, true, true, true, true, true, true, true, true, true, true, true, true, true, true, true, false, false, false, false, false, false, false] rfl rfl (any_of HT_.out (by kernel_rfl)) (fun _ _ _ h => h) (Or.inr ⟨by rfl, rfl⟩) ?_ ?_
                      rotate_left
                      · simp only [Act.put, List.setIfInBounds_toArray, List.set_cons_zero, List.set_cons_succ, i64_w, i32_w]
                        rfl
                      refine pure_ (i := 26) (N := some 50) (v := undef) (a' := ?_) #[true, true, true, true, true, true, true, true, true, true, true, true, true, true, true, true, true, true, true, true, true, true, true, true, true, true, true, false, false, false, false, false, false] rfl rfl (any_of HT_.out (by kernel_rfl)) (fun _ _ _ h => h) (Or.inr ⟨by rfl, rfl⟩) ?_ ?_
                      rotate_left
                      · simp only [Act.put, List.setIfInBounds_toArray, List.set_cons_zero, List.set_cons_succ, i64_w, i32_w]
                        rfl
                      refine pure_ (i := 27) (N := some 51) (v := undef) (a' := ?_) #[true, true, true, true, true, true, true, true, true, true, true, true, true, true, true, true, true, true, true, true, true, true, true, true, true, true, true, true, false, false, false, false, false] rfl rfl (any_of HT_.out (by kernel_rfl)) (fun _ _ _ h => h) (Or.inr ⟨by rfl, rfl⟩) ?_ ?_
                      rotate_left
                      · simp only [Act.put, List.setIfInBounds_toArray, List.set_cons_zero, List.set_cons_succ, i64_w, i32_w]
                        rfl
                      refine pure_ (i := 28) (N := some 52) (v := ?_) (a' := ?_) #[true, true, true, true, true, true, true, true, true, true, true, true, true, true, true, true, true, true, true, true, true, true, true, true, true, true, true, true, true, false, false, false, false] rfl rfl (any_of HT_.out (by kernel_rfl)) (fun _ _ _ h => h) (Or.inl ⟨by rfl, ?_⟩) ?_ ?_
                      rotate_left
                      · intro w'
                        go_simp
                        first | with_reducible rfl | (rw [if_neg (by (try simp only [decide_eq_true_eq, ByteArray.size_append, ByteArray.size_extract, eq_iff_iff, iff_true, iff_false, Nat.not_lt] at *); omega)]; try with_reducible rfl)
                      rotate_left
                      · simp only [Act.put, List.setIfInBounds_toArray, List.set_cons_zero, List.set_cons_succ, i64_w, i32_w]
                        rfl
                      refine pure_ (i := 29) (N := some 53) (v := ?_) (a' := ?_) #[true, true, true, true, true, true, true, true, true, true, true, true, true, true, true, true, true, true, true, true, true, true, true, true, true, true, true, true, true, true, false, false, false] rfl rfl (any_of HT_.out (by kernel_rfl)) (fun _ _ _ h => h) (Or.inl ⟨by rfl, ?_⟩) ?_ ?_
                      rotate_left
                      · intro w'
                        go_simp
                        first | with_reducible rfl | (rw [if_neg (by (try simp only [decide_eq_true_eq, ByteArray.size_append, ByteArray.size_extract, eq_iff_iff, iff_true, iff_false, Nat.not_lt] at *); omega)]; try with_reducible rfl)
                      rotate_left
                      · simp only [Act.put, List.setIfInBounds_toArray, List.set_cons_zero, List.set_cons_succ, i64_w, i32_w]
                        rfl
                      refine pure_ (i := 30) (N := some 54) (v := undef) (a' := ?_) #[true, true, true, true, true, true, true, true, true, true, true, true, true, true, true, true, true, true, true, true, true, true, true, true, true, true, true, true, true, true, true, false, false] rfl rfl (any_of HT_.out (by kernel_rfl)) (fun _ _ _ h => h) (Or.inr ⟨by rfl, rfl⟩) ?_ ?_
                      rotate_left
                      · simp only [Act.put, List.setIfInBounds_toArray, List.set_cons_zero, List.set_cons_succ, i64_w, i32_w]
                        rfl
                      refine pure_ (i := 31) (N := some 55) (v := ?_) (a' := ?_) #[true, true, true, true, true, true, true, true, true, true, true, true, true, true, true, true, true, true, true, true, true, true, true, true, true, true, true, true, true, true, true, true, false] rfl rfl (any_of HT_.out (by kernel_rfl)) (fun _ _ _ h => h) (Or.inl ⟨by rfl, ?_⟩) ?_ ?_
                      rotate_left
                      · intro w'
                        go_simp
                        first | with_reducible rfl | (rw [if_neg (by (try simp only [decide_eq_true_eq, ByteArray.size_append, ByteArray.size_extract, eq_iff_iff, iff_true, iff_false, Nat.not_lt] at *); omega)]; try with_reducible rfl)
                      rotate_left
                      · simp only [Act.put, List.setIfInBounds_toArray, List.set_cons_zero, List.set_cons_succ, i64_w, i32_w]
                        rfl
                      refine pure_ (i := 32) (N := some 6) (v := ?_) (a' := ?_) #[true, true, true, true, true, true, true, true, true, true, true, true, true, true, true, true, true, true, true, true, true, true, true, true, true, true, true, true, true, true, true, true, true] rfl rfl (any_of HT_.out (by kernel_rfl)) (fun _ _ _ h => h) (Or.inl ⟨by rfl, ?_⟩) ?_ ?_
                      rotate_left
                      · intro w'
                        go_simp
                        first | with_reducible rfl | (rw [if_neg (by (try simp only [decide_eq_true_eq, ByteArray.size_append, ByteArray.size_extract, eq_iff_iff, iff_true, iff_false, Nat.not_lt] at *); omega)]; try with_reducible rfl)
                      rotate_left
                      · simp only [Act.put, List.setIfInBounds_toArray, List.set_cons_zero, List.set_cons_succ, i64_w, i32_w]
                        rfl
                      refine done_ (done_of HT_.out (by kernel_rfl)) ?_
                      try go_wp2
                      go_ret
                      exact ⟨by first | rfl | (simp [errW_none, errW_some] <;> rfl) | (simp [*, errW_none, errW_some] <;> rfl), by repeat (first | (with_reducible first | exact HB.out | apply below_alloc | apply pw_below_drewN | apply below_drew1) | exact HB.out)⟩
                  · rw [if_neg c18] at H
                    exact absurd H (by simp)
                · rw [if_neg c16] at H
                  exact absurd H (by simp)
              · rw [if_neg c15] at H
                exact absurd H (by simp)
            · rw [if_neg c14] at H
              have c14b0 : ((t271.extract 0 4).toList == t273.toList) = false := beq_eq_false_iff_ne.mpr c14
              have c14b1 : ((t271.extract 0 4).toList != t273.toList) = true := bne_iff_ne.mpr c14
              obtain rfl := Option.some.inj H
              try go_wp2_with (first | ((with_reducible refine gate_callee (f := 17) rfl ?_); refine goesL_ (some 18) rfl rfl Try.func17 (by kernel_rfl) rfl #[.int .u32 a0, .int .u32 a1, .int .i64 17, .int .i64 (x2_3.size : Int)] rfl (by (try simp only [List.map_toArray, List.map_cons, List.map_nil]); first | done | rfl | (simp only [List.length_drop, List.length_take]; rfl)) ?_; (with_reducible refine (csum_Head.calls kj3 a0 a1 17 (x2_3.size : Int) t271 _ A8.out).mono ?_); rintro e w55 ⟨rfl, hb⟩; refine ⟨_, rfl, ?_⟩; have n0_ := Aside0.mk (below_step (by repeat (first | (with_reducible first | exact HB.out | apply below_alloc | apply pw_below_drewN | apply below_drew1) | exact HB.out)) hb); clear HB; have HB := n0_; clear n0_; (try clear hb); (try clear hb2); (try clear hk); (try clear hi)) | ((with_reducible refine gate_callee (f := 17) rfl ?_); refine goesL_ (some 23) rfl rfl Try.func17 (by kernel_rfl) rfl #[.int .u32 a1, .int .u32 a0, .int .i64 17, .int .i64 (x2_3.size : Int)] rfl (by (try simp only [List.map_toArray, List.map_cons, List.map_nil]); first | done | rfl | (simp only [List.length_drop, List.length_take]; rfl)) ?_; (with_reducible refine (csum_Head.calls kj3 a1 a0 17 (x2_3.size : Int) t272 _ A9.out).mono ?_); rintro e w56 ⟨rfl, hb⟩; refine ⟨_, rfl, ?_⟩; have n0_ := Aside0.mk (below_step (by repeat (first | (with_reducible first | exact HB.out | apply below_alloc | apply pw_below_drewN | apply below_drew1) | exact HB.out)) hb); clear HB; have HB := n0_; clear n0_; (try clear hb); (try clear hb2); (try clear hk); (try clear hi)))
              have n0_ := Aside0.mk (below_drew1 HB.out)
              clear HB
              have HB := n0_
              clear n0_
              refine start_ (n := 33) (S := fun w' => True) (ds := []) #[false, false, false, false, false, false, false, false, false, false, false, false, false, false, false, false, false, false, false, false, false, false, false, false, false, false, false, false, false, false, false, false, false] (by kernel_rfl) rfl rfl trivial (fun hHeld => ?_); refine with_tabW gangwaylaw03_CsumPseudo.tab3 gangwaylaw03_CsumPseudo.bits3 (fun HT_ HW_ => ?_)
              generalize w56.drew = w57 at HB hHeld ⊢
              refine pure_ (i := 0) (N := some 24) (v := ?_) (a' := ?_) #[true, false, false, false, false, false, false, false, false, false, false, false, false, false, false, false, false, false, false, false, false, false, false, false, false, false, false, false, false, false, false, false, false] rfl rfl (any_of HT_.out (by kernel_rfl)) (fun _ _ _ h => h) (Or.inl ⟨by rfl, ?_⟩) ?_ ?_
              rotate_left
              · intro w'
                go_simp
                first | with_reducible rfl | (rw [if_neg (by (try simp only [decide_eq_true_eq, ByteArray.size_append, ByteArray.size_extract, eq_iff_iff, iff_true, iff_false, Nat.not_lt] at *); omega)]; try with_reducible rfl)
              rotate_left
              · simp only [Act.put, List.setIfInBounds_toArray, List.set_cons_zero, List.set_cons_succ, i64_w, i32_w]
                rfl
              refine pure_ (i := 1) (N := some 25) (v := ?_) (a' := ?_) #[true, true, false, false, false, false, false, false, false, false, false, false, false, false, false, false, false, false, false, false, false, false, false, false, false, false, false, false, false, false, false, false, false] rfl rfl (any_of HT_.out (by kernel_rfl)) (fun _ _ _ h => h) (Or.inl ⟨by rfl, ?_⟩) ?_ ?_
              rotate_left
              · intro w'
                go_simp
                first | with_reducible rfl | (rw [if_neg (by (try simp only [decide_eq_true_eq, ByteArray.size_append, ByteArray.size_extract, eq_iff_iff, iff_true, iff_false, Nat.not_lt] at *); omega)]; try with_reducible rfl)
              rotate_left
              · simp only [Act.put, List.setIfInBounds_toArray, List.set_cons_zero, List.set_cons_succ, i64_w, i32_w]
                rfl
              refine pure_ (i := 2) (N := some 26) (v := ?_) (a' := ?_) #[true, true, true, false, false, false, false, false, false, false, false, false, false, false, false, false, false, false, false, false, false, false, false, false, false, false, false, false, false, false, false, false, false] rfl rfl (any_of HT_.out (by kernel_rfl)) (fun _ _ _ h => h) (Or.inl ⟨by rfl, ?_⟩) ?_ ?_
              rotate_left
              · intro w'
                go_simp
                first | with_reducible rfl | (rw [if_neg (by (try simp only [decide_eq_true_eq, ByteArray.size_append, ByteArray.size_extract, eq_iff_iff, iff_true, iff_false, Nat.not_lt] at *); omega)]; try with_reducible rfl)
              rotate_left
              · simp only [Act.put, List.setIfInBounds_toArray, List.set_cons_zero, List.set_cons_succ, i64_w, i32_w]
                rfl
              refine pure_ (i := 3) (N := some 27) (v := ?_) (a' := ?_) #[true, true, true, true, false, false, false, false, false, false, false, false, false, false, false, false, false, false, false, false, false, false, false, false, false, false, false, false, false, false, false, false, false] rfl rfl (any_of HT_.out (by kernel_rfl)) (fun _ _ _ h => h) (Or.inl ⟨by rfl, ?_⟩) ?_ ?_
              rotate_left
              · intro w'
                go_simp
                first | with_reducible rfl | (rw [if_neg (by (try simp only [decide_eq_true_eq, ByteArray.size_append, ByteArray.size_extract, eq_iff_iff, iff_true, iff_false, Nat.not_lt] at *); omega)]; try with_reducible rfl)
              rotate_left
              · simp only [Act.put, List.setIfInBounds_toArray, List.set_cons_zero, List.set_cons_succ, i64_w, i32_w]
                rfl
              refine pure_ (i := 4) (N := some 28) (v := ?_) (a' := ?_) #[true, true, true, true, true, false, false, false, false, false, false, false, false, false, false, false, false, false, false, false, false, false, false, false, false, false, false, false, false, false, false, false, false] rfl rfl (any_of HT_.out (by kernel_rfl)) (fun _ _ _ h => h) (Or.inl ⟨by rfl, ?_⟩) ?_ ?_
              rotate_left
              · intro w'
                go_simp
                first | with_reducible rfl | (rw [if_neg (by (try simp only [decide_eq_true_eq, ByteArray.size_append, ByteArray.size_extract, eq_iff_iff, iff_true, iff_false, Nat.not_lt] at *); omega)]; try with_reducible rfl)
              rotate_left
              · simp only [Act.put, List.setIfInBounds_toArray, List.set_cons_zero, List.set_cons_succ, i64_w, i32_w]
                rfl
              refine pure_ (i := 5) (N := some 29) (v := ?_) (a' := ?_) #[true, true, true, true, true, true, false, false, false, false, false, false, false, false, false, false, false, false, false, false, false, false, false, false, false, false, false, false, false, false, false, false, false] rfl rfl (any_of HT_.out (by kernel_rfl)) (fun _ _ _ h => h) (Or.inl ⟨by rfl, ?_⟩) ?_ ?_
              rotate_left
              · intro w'
                go_simp
                first | with_reducible rfl | (rw [if_neg (by (try simp only [decide_eq_true_eq, ByteArray.size_append, ByteArray.size_extract, eq_iff_iff, iff_true, iff_false, Nat.not_lt] at *); omega)]; try with_reducible rfl)
              rotate_left
              · simp only [Act.put, List.setIfInBounds_toArray, List.set_cons_zero, List.set_cons_succ, i64_w, i32_w]
                rfl
              refine pure_ (i := 6) (N := some 30) (v := ?_) (a' := ?_) #[true, true, true, true, true, true, true, false, false, false, false, false, false, false, false, false, false, false, false, false, false, false, false, false, false, false, false, false, false, false, false, false, false] rfl rfl (any_of HT_.out (by kernel_rfl)) (fun _ _ _ h => h) (Or.inl ⟨by rfl, ?_⟩) ?_ ?_
              rotate_left
              · intro w'
                go_simp
                first | with_reducible rfl | (rw [if_neg (by (try simp only [decide_eq_true_eq, ByteArray.size_append, ByteArray.size_extract, eq_iff_iff, iff_true, iff_false, Nat.not_lt] at *); omega)]; try with_reducible rfl)
              rotate_left
              · simp only [Act.put, List.setIfInBounds_toArray, List.set_cons_zero, List.set_cons_succ, i64_w, i32_w]
                rfl
              refine pure_ (i := 7) (N := some 31) (v := ?_) (a' := ?_) #[true, true, true, true, true, true, true, true, false, false, false, false, false, false, false, false, false, false, false, false, false, false, false, false, false, false, false, false, false, false, false, false, false] rfl rfl (any_of HT_.out (by kernel_rfl)) (fun _ _ _ h => h) (Or.inl ⟨by rfl, ?_⟩) ?_ ?_
              rotate_left
              · intro w'
                go_simp
                first | with_reducible rfl | (rw [if_neg (by (try simp only [decide_eq_true_eq, ByteArray.size_append, ByteArray.size_extract, eq_iff_iff, iff_true, iff_false, Nat.not_lt] at *); omega)]; try with_reducible rfl)
              rotate_left
              · simp only [Act.put, List.setIfInBounds_toArray, List.set_cons_zero, List.set_cons_succ, i64_w, i32_w]
                rfl
              refine one_ (i := 8) (N := some 32) #[true, true, true, true, true, true, true, true, true, false, false, false, false, false, false, false, false, false, false, false, false, false, false, false, false, false, false, false, false, false, false, false, false] rfl rfl (one_of HT_.out (by kernel_rfl)) (by decide) (fun K hK => ?_)
              refine goes_ Try.func19 (by kernel_rfl) rfl #[.int .u64 (IntKind.u64.wrap (a0)), .int .i64 4] (by rfl) rfl rfl (by (try simp only [List.map_toArray, List.map_cons, List.map_nil]); first | done | rfl | (simp only [List.length_drop, List.length_take]; rfl)) ?_
              with_reducible refine (gangwayref01_Bytes.calls kj3 (IntKind.u64.wrap (a0)) 4 t273 _ A13.out).mono ?_
              rintro e w58 ⟨rfl, hb⟩
              refine ⟨_, rfl, ?_⟩
              have n0_ := Aside0.mk (below_step (by repeat (first | (with_reducible first | exact HB.out | apply below_alloc | apply pw_below_drewN | apply below_drew1) | exact HB.out)) hb)
              clear HB
              have HB := n0_
              clear n0_
              (try clear hb)
              (try clear hb2)
              (try clear hk)
              (try clear hi)
              refine hK.out _ _ trivial (fun hHeld => ?_)
              clear hK K
              refine norm_ (a' := ?_) ?_ ?_
              rotate_left
              · show Act.put _ (some 32) _ = _
                simp only [Act.put, List.setIfInBounds_toArray, List.set_cons_zero, List.set_cons_succ, i64_w, i32_w]
                rfl
              refine pure_ (i := 9) (N := some 33) (v := ?_) (a' := ?_) #[true, true, true, true, true, true, true, true, true, true, false, false, false, false, false, false, false, false, false, false, false, false, false, false, false, false, false, false, false, false, false, false, false] rfl rfl (any_of HT_.out (by kernel_rfl)) (fun _ _ _ h => h) (Or.inl ⟨by rfl, ?_⟩) ?_ ?_
              rotate_left
              · intro w'
                go_simp
                first | with_reducible rfl | (rw [if_neg (by (try simp only [decide_eq_true_eq, ByteArray.size_append, ByteArray.size_extract, eq_iff_iff, iff_true, iff_false, Nat.not_lt] at *); omega)]; try with_reducible rfl)
              rotate_left
              · simp only [Act.put, List.setIfInBounds_toArray, List.set_cons_zero, List.set_cons_succ, i64_w, i32_w]
                rfl
              refine pure_ (i := 10) (N := some 34) (v := ?_) (a' := ?_) #[true, true, true, true, true, true, true, true, true, true, true, false, false, false, false, false, false, false, false, false, false, false, false, false, false, false, false, false, false, false, false, false, false] rfl rfl (any_of HT_.out (by kernel_rfl)) (fun _ _ _ h => h) (Or.inl ⟨by rfl, ?_⟩) ?_ ?_
              rotate_left
              · intro w'
                go_simp
                first | with_reducible rfl | (rw [if_neg (by (try simp only [decide_eq_true_eq, ByteArray.size_append, ByteArray.size_extract, eq_iff_iff, iff_true, iff_false, Nat.not_lt] at *); omega)]; try with_reducible rfl)
              rotate_left
              · simp only [Act.put, List.setIfInBounds_toArray, List.set_cons_zero, List.set_cons_succ, i64_w, i32_w]
                rfl
              refine pure_ (i := 11) (N := some 35) (v := ?_) (a' := ?_) #[true, true, true, true, true, true, true, true, true, true, true, true, false, false, false, false, false, false, false, false, false, false, false, false, false, false, false, false, false, false, false, false, false] rfl rfl (any_of HT_.out (by kernel_rfl)) (fun _ _ _ h => h) (Or.inl ⟨by rfl, ?_⟩) ?_ ?_
              rotate_left
              · intro w'
                go_simp
                first | with_reducible rfl | (rw [if_neg (by (try simp only [decide_eq_true_eq, ByteArray.size_append, ByteArray.size_extract, eq_iff_iff, iff_true, iff_false, Nat.not_lt] at *); omega)]; try with_reducible rfl)
              rotate_left
              · simp only [Act.put, List.setIfInBounds_toArray, List.set_cons_zero, List.set_cons_succ, i64_w, i32_w]
                rfl
              refine pure_ (i := 12) (N := some 36) (v := undef) (a' := ?_) #[true, true, true, true, true, true, true, true, true, true, true, true, true, false, false, false, false, false, false, false, false, false, false, false, false, false, false, false, false, false, false, false, false] rfl rfl (any_of HT_.out (by kernel_rfl)) (fun _ _ _ h => h) (Or.inr ⟨by rfl, rfl⟩) ?_ ?_
              rotate_left
              · simp only [Act.put, List.setIfInBounds_toArray, List.set_cons_zero, List.set_cons_succ, i64_w, i32_w]
                rfl
              refine pure_ (i := 13) (N := some 37) (v := undef) (a' := ?_) #[true, true, true, true, true, true, true, true, true, true, true, true, true, true, false, false, false, false, false, false, false, false, false, false, false, false, false, false, false, false, false, false, false] rfl rfl (any_of HT_.out (by kernel_rfl)) (fun _ _ _ h => h) (Or.inr ⟨by rfl, rfl⟩) ?_ ?_
              rotate_left
              · simp only [Act.put, List.setIfInBounds_toArray, List.set_cons_zero, List.set_cons_succ, i64_w, i32_w]
                rfl
              refine pure_ (i := 14) (N := some 38) (v := undef) (a' := ?_) #[true, true, true, true, true, true, true, true, true, true, true, true, true, true, true, false, false, false, false, false, false, false, false, false, false, false, false, false, false, false, false, false, false] rfl rfl (any_of HT_.out (by kernel_rfl)) (fun _ _ _ h => h) (Or.inr ⟨by rfl, rfl⟩) ?_ ?_
              rotate_left
              · simp only [Act.put, List.setIfInBounds_toArray, List.set_cons_zero, List.set_cons_succ, i64_w, i32_w]
                rfl
              refine pure_ (i := 15) (N := some 39) (v := undef) (a' := ?_) #[true, true, true, true, true, true, true, true, true, true, true, true, true, true, true, true, false, false, false, false, false, false, false, false, false, false, false, false, false, false, false, false, false] rfl rfl (any_of HT_.out (by kernel_rfl)) (fun _ _ _ h => h) (Or.inr ⟨by rfl, rfl⟩) ?_ ?_
              rotate_left
              · simp only [Act.put, List.setIfInBounds_toArray, List.set_cons_zero, List.set_cons_succ, i64_w, i32_w]
                rfl
              refine pure_ (i := 16) (N := some 40) (v := undef) (a' := ?_) #[true, true, true, true, true, true, true, true, true, true, true, true, true, true, true, true, true, false, false, false, false, false, false, false, false, false, false, false, false, false, false, false, false] rfl rfl (any_of HT_.out (by kernel_rfl)) (fun _ _ _ h => h) (Or.inr ⟨by rfl, rfl⟩) ?_ ?_
              rotate_left
              · simp only [Act.put, List.setIfInBounds_toArray, List.set_cons_zero, List.set_cons_succ, i64_w, i32_w]
                rfl
              refine pure_ (i := 17) (N := some 41) (v := ?_) (a' := ?_) #[true, true, true, true, true, true, true, true, true, true, true, true, true, true, true, true, true, true, false, false, false, false, false, false, false, false, false, false, false, false, false, false, false] rfl rfl (any_of HT_.out (by kernel_rfl)) (fun _ _ _ h => h) (Or.inl ⟨by rfl, ?_⟩) ?_ ?_
              rotate_left
              · intro w'
                go_simp
                first | with_reducible rfl | (rw [if_neg (by (try simp only [decide_eq_true_eq, ByteArray.size_append, ByteArray.size_extract, eq_iff_iff, iff_true, iff_false, Nat.not_lt] at *); omega)]; try with_reducible rfl)
              rotate_left
              · simp only [Act.put, List.setIfInBounds_toArray, List.set_cons_zero, List.set_cons_succ, i64_w, i32_w]
                rfl
              refine pure_ (i := 18) (N := some 42) (v := ?_) (a' := ?_) #[true, true, true, true, true, true, true, true, true, true, true, true, true, true, true, true, true, true, true, false, false, false, false, false, false, false, false, false, false, false, false, false, false] rfl rfl (any_of HT_.out (by kernel_rfl)) (fun _ _ _ h => h) (Or.inl ⟨by rfl, ?_⟩) ?_ ?_
              rotate_left
              · intro w'
                go_simp
                first | with_reducible rfl | (rw [if_neg (by (try simp only [decide_eq_true_eq, ByteArray.size_append, ByteArray.size_extract, eq_iff_iff, iff_true, iff_false, Nat.not_lt] at *); omega)]; try with_reducible rfl)
              rotate_left
              · simp only [Act.put, List.setIfInBounds_toArray, List.set_cons_zero, List.set_cons_succ, i64_w, i32_w]
                rfl
              refine pure_ (i := 19) (N := some 43) (v := undef) (a' := ?_) #[true, true, true, true, true, true, true, true, true, true, true, true, true, true, true, true, true, true, true, true, false, false, false, false, false, false, false, false, false, false, false, false, false] rfl rfl (any_of HT_.out (by kernel_rfl)) (fun _ _ _ h => h) (Or.inr ⟨by rfl, rfl⟩) ?_ ?_
              rotate_left
              · simp only [Act.put, List.setIfInBounds_toArray, List.set_cons_zero, List.set_cons_succ, i64_w, i32_w]
                rfl
              refine pure_ (i := 20) (N := some 44) (v := undef) (a' := ?_) #[true, true, true, true, true, true, true, true, true, true, true, true, true, true, true, true, true, true, true, true, true, false, false, false, false, false, false, false, false, false, false, false, false] rfl rfl (any_of HT_.out (by kernel_rfl)) (fun _ _ _ h => h) (Or.inr ⟨by rfl, rfl⟩) ?_ ?_
              rotate_left
              · simp only [Act.put, List.setIfInBounds_toArray, List.set_cons_zero, List.set_cons_succ, i64_w, i32_w]
                rfl
              refine pure_ (i := 21) (N := some 45) (v := undef) (a' := ?_) #[true, true, true, true, true, true, true, true, true, true, true, true, true, true, true, true, true, true, true, true, true, true, false, false, false, false, false, false, false, false, false, false, false] rfl rfl (any_of HT_.out (by kernel_rfl)) (fun _ _ _ h => h) (Or.inr ⟨by rfl, rfl⟩) ?_ ?_
              rotate_left
              · simp only [Act.put, List.setIfInBounds_toArray, List.set_cons_zero, List.set_cons_succ, i64_w, i32_w]
                rfl
              refine pure_ (i := 22) (N := some 46) (v := undef) (a' := ?_) #[true, true, true, true, true, true, true, true, true, true, true, true, true, true, true, true, true, true, true, true, true, true, true, false, false, false, false, false, false, false, false, false, false] rfl rfl (any_of HT_.out (by kernel_rfl)) (fun _ _ _ h => h) (Or.inr ⟨by rfl, rfl⟩) ?_ ?_
              rotate_left
              · simp only [Act.put, List.setIfInBounds_toArray, List.set_cons_zero, List.set_cons_succ, i64_w, i32_w]
                rfl
              refine pure_ (i := 23) (N := some 47) (v := undef) (a' := ?_) #[true, true, true, true, true, true, true, true, true, true, true, true, true, true, true, true, true, true, true, true, true, true, true, true, false, false, false, false, false, false, false, false, false] rfl rfl (any_of HT_.out (by kernel_rfl)) (fun _ _ _ h => h) (Or.inr ⟨by rfl, rfl⟩) ?_ ?_
              rotate_left
              · simp only [Act.put, List.setIfInBounds_toArray, List.set_cons_zero, List.set_cons_succ, i64_w, i32_w]
                rfl
              refine pure_ (i := 24) (N := some 48) (v := undef) (a' := ?_) #[true, true, true, true, true, true, true, true, true, true, true, true, true, true, true, true, true, true, true, true, true, true, true, true, true, false, false, false, false, false, false, false, false] rfl rfl (any_of HT_.out (by kernel_rfl)) (fun _ _ _ h => h) (Or.inr ⟨by rfl, rfl⟩) ?_ ?_
              rotate_left
              · simp only [Act.put, List.setIfInBounds_toArray, List.set_cons_zero, List.set_cons_succ, i64_w, i32_w]
                rfl
              refine pure_ (i := 25) (N := some 49) (v := undef) (a' := ?_) #[true, true, true, true, true, true, true, true, true, true, true, true, true, true, true, true, true, true, true, true, true, true, true, true, true, true, false, false, false, false, false, false, false] rfl rfl (any_of HT_.out (by kernel_rfl)) (fun _ _ _ h => h) (Or.inr ⟨by rfl, rfl⟩) ?_ ?_
              rotate_left
              · simp only [Act.put, List.setIfInBounds_toArray, List.set_cons_zero, List.set_cons_succ, i64_w, i32_w]
                rfl
              refine pure_ (i := 26) (N := some 50) (v := undef) (a' := ?_) #[true, true, true, true, true, true, true, true, true, true, true, true, true, true, true, true, true, true, true, true, true, true, true, true, true, true, true, false, false, false, false, false, false] rfl rfl (any_of HT_.out (by kernel_rfl)) (fun _ _ _ h => h) (Or.inr ⟨by rfl, rfl⟩) ?_ ?_
              rotate_left
              · simp only [Act.put, List.setIfInBounds_toArray, List.set_cons_zero, List.set_cons_succ, i64_w, i32_w]
                rfl
              refine pure_ (i := 27) (N := some 51) (v := undef) (a' := ?_) #[true, true, true, true, true, true, true, true, true, true, true, true, true, true, true, true, true, true, true, true, true, true, true, true, true, true, true, true, false, false, false, false, false] rfl rfl (any_of HT_.out (by kernel_rfl)) (fun _ _ _ h => h) (Or.inr ⟨by rfl, rfl⟩) ?_ ?_
              rotate_left
              · simp only [Act.put, List.setIfInBounds_toArray, List.set_cons_zero, List.set_cons_succ, i64_w, i32_w]
                rfl
              refine pure_ (i := 28) (N := some 52) (v := ?_) (a' := ?_) #[true, true, true, true, true, true, true, true, true, true, true, true, true, true, true, true, true, true, true, true, true, true, true, true, true, true, true, true, true, false, false, false, false] rfl rfl (any_of HT_.out (by kernel_rfl)) (fun _ _ _ h => h) (Or.inl ⟨by rfl, ?_⟩) ?_ ?_
              rotate_left
              · intro w'
                go_simp
                first | with_reducible rfl | (rw [if_neg (by (try simp only [decide_eq_true_eq, ByteArray.size_append, ByteArray.size_extract, eq_iff_iff, iff_true, iff_false, Nat.not_lt] at *); omega)]; try with_reducible rfl)
              rotate_left
              · simp only [Act.put, List.setIfInBounds_toArray, List.set_cons_zero, List.set_cons_succ, i64_w, i32_w]
                rfl
              refine pure_ (i := 29) (N := some 53) (v := ?_) (a' := ?_) #[true, true, true, true, true, true, true, true, true, true, true, true, true, true, true, true, true, true, true, true, true, true, true, true, true, true, true, true, true, true, false, false, false] rfl rfl (any_of HT_.out (by kernel_rfl)) (fun _ _ _ h => h) (Or.inl ⟨by rfl, ?_⟩) ?_ ?_
              rotate_left
              · intro w'
                go_simp
                first | with_reducible rfl | (rw [if_neg (by (try simp only [decide_eq_true_eq, ByteArray.size_append, ByteArray.size_extract, eq_iff_iff, iff_true, iff_false, Nat.not_lt] at *); omega)]; try with_reducible rfl)
              rotate_left
              · simp only [Act.put, List.setIfInBounds_toArray, List.set_cons_zero, List.set_cons_succ, i64_w, i32_w]
                rfl
              refine pure_ (i := 30) (N := some 54) (v := undef) (a' := ?_) #[true, true, true, true, true, true, true, true, true, true, true, true, true, true, true, true, true, true, true, true, true, true, true, true, true, true, true, true, true, true, true, false, false] rfl rfl (any_of HT_.out (by kernel_rfl)) (fun _ _ _ h => h) (Or.inr ⟨by rfl, rfl⟩) ?_ ?_
              rotate_left
              · simp only [Act.put, List.setIfInBounds_toArray, List.set_cons_zero, List.set_cons_succ, i64_w, i32_w]
                rfl
              refine pure_ (i := 31) (N := some 55) (v := ?_) (a' := ?_) #[true, true, true, true, true, true, true, true, true, true, true, true, true, true, true, true, true, true, true, true, true, true, true, true, true, true, true, true, true, true, true, true, false] rfl rfl (any_of HT_.out (by kernel_rfl)) (fun _ _ _ h => h) (Or.inl ⟨by rfl, ?_⟩) ?_ ?_
              rotate_left
              · intro w'
                go_simp
                first | with_reducible rfl | (rw [if_neg (by (try simp only [decide_eq_true_eq, ByteArray.size_append, ByteArray.size_extract, eq_iff_iff, iff_true, iff_false, Nat.not_lt] at *); omega)]; try with_reducible rfl)
              rotate_left
              · simp only [Act.put, List.setIfInBounds_toArray, List.set_cons_zero, List.set_cons_succ, i64_w, i32_w]
                rfl
              refine pure_ (i := 32) (N := some 6) (v := ?_) (a' := ?_) #[true, true, true, true, true, true, true, true, true, true, true, true, true, true, true, true, true, true, true, true, true, true, true, true, true, true, true, true, true, true, true, true, true] rfl rfl (any_of HT_.out (by kernel_rfl)) (fun _ _ _ h => h) (Or.inl ⟨by rfl, ?_⟩) ?_ ?_
              rotate_left
              · intro w'
                go_simp
                first | with_reducible rfl | (rw [if_neg (by (try simp only [decide_eq_true_eq, ByteArray.size_append, ByteArray.size_extract, eq_iff_iff, iff_true, iff_false, Nat.not_lt] at *); omega)]; try with_reducible rfl)
              rotate_left
              · simp only [Act.put, List.setIfInBounds_toArray, List.set_cons_zero, List.set_cons_succ, i64_w, i32_w]
                rfl
              refine done_ (done_of HT_.out (by kernel_rfl)) ?_
              try go_wp2
              go_ret
              exact ⟨by first | rfl | (simp [errW_none, errW_some] <;> rfl) | (simp [*, errW_none, errW_some] <;> rfl), by repeat (first | (with_reducible first | exact HB.out | apply below_alloc | apply pw_below_drewN | apply below_drew1) | exact HB.out)⟩
          · rw [if_neg c12] at H
            exact absurd H (by simp)
        · rw [if_neg c11] at H
          exact absurd H (by simp)
      · rw [if_neg c10] at H
        have c10b0 : ((t271.size : Int) == 12) = false := beq_eq_false_iff_ne.mpr c10
        have c10b1 : ((t271.size : Int) != 12) = true := bne_iff_ne.mpr c10
        obtain rfl := Option.some.inj H
        try go_wp2_with (first | ((with_reducible refine gate_callee (f := 17) rfl ?_); refine goesL_ (some 18) rfl rfl Try.func17 (by kernel_rfl) rfl #[.int .u32 a0, .int .u32 a1, .int .i64 17, .int .i64 (x2_3.size : Int)] rfl (by (try simp only [List.map_toArray, List.map_cons, List.map_nil]); first | done | rfl | (simp only [List.length_drop, List.length_take]; rfl)) ?_; (with_reducible refine (csum_Head.calls kj3 a0 a1 17 (x2_3.size : Int) t271 _ A8.out).mono ?_); rintro e w59 ⟨rfl, hb⟩; refine ⟨_, rfl, ?_⟩; have n0_ := Aside0.mk (below_step (by repeat (first | (with_reducible first | exact HB.out | apply below_alloc | apply pw_below_drewN | apply below_drew1) | exact HB.out)) hb); clear HB; have HB := n0_; clear n0_; (try clear hb); (try clear hb2); (try clear hk); (try clear hi)) | ((with_reducible refine gate_callee (f := 17) rfl ?_); refine goesL_ (some 23) rfl rfl Try.func17 (by kernel_rfl) rfl #[.int .u32 a1, .int .u32 a0, .int .i64 17, .int .i64 (x2_3.size : Int)] rfl (by (try simp only [List.map_toArray, List.map_cons, List.map_nil]); first | done | rfl | (simp only [List.length_drop, List.length_take]; rfl)) ?_; (with_reducible refine (csum_Head.calls kj3 a1 a0 17 (x2_3.size : Int) t272 _ A9.out).mono ?_); rintro e w60 ⟨rfl, hb⟩; refine ⟨_, rfl, ?_⟩; have n0_ := Aside0.mk (below_step (by repeat (first | (with_reducible first | exact HB.out | apply below_alloc | apply pw_below_drewN | apply below_drew1) | exact HB.out)) hb); clear HB; have HB := n0_; clear n0_; (try clear hb); (try clear hb2); (try clear hk); (try clear hi)))
        have n0_ := Aside0.mk (below_drew1 HB.out)
        clear HB
        have HB := n0_
        clear n0_
        refine start_ (n := 33) (S := fun w' => True) (ds := []) #[false, false, false, false, false, false, false, false, false, false, false, false, false, false, false, false, false, false, false, false, false, false, false, false, false, false, false, false, false, false, false, false, false] (by kernel_rfl) rfl rfl trivial (fun hHeld => ?_); refine with_tabW gangwaylaw03_CsumPseudo.tab3 gangwaylaw03_CsumPseudo.bits3 (fun HT_ HW_ => ?_)
        generalize w60.drew = w61 at HB hHeld ⊢
        refine pure_ (i := 0) (N := some 24) (v := ?_) (a' := ?_) #[true, false, false, false, false, false, false, false, false, false, false, false, false, false, false, false, false, false, false, false, false, false, false, false, false, false, false, false, false, false, false, false, false] rfl rfl (any_of HT_.out (by kernel_rfl)) (fun _ _ _ h => h) (Or.inl ⟨by rfl, ?_⟩) ?_ ?_
        rotate_left
        · intro w'
          go_simp
          first | with_reducible rfl | (rw [if_neg (by (try simp only [decide_eq_true_eq, ByteArray.size_append, ByteArray.size_extract, eq_iff_iff, iff_true, iff_false, Nat.not_lt] at *); omega)]; try with_reducible rfl)
        rotate_left
        · simp only [Act.put, List.setIfInBounds_toArray, List.set_cons_zero, List.set_cons_succ, i64_w, i32_w]
          rfl
        refine pure_ (i := 1) (N := some 25) (v := ?_) (a' := ?_) #[true, true, false, false, false, false, false, false, false, false, false, false, false, false, false, false, false, false, false, false, false, false, false, false, false, false, false, false, false, false, false, false, false] rfl rfl (any_of HT_.out (by kernel_rfl)) (fun _ _ _ h => h) (Or.inl ⟨by rfl, ?_⟩) ?_ ?_
        rotate_left
        · intro w'
          go_simp
          first | with_reducible rfl | (rw [if_neg (by (try simp only [decide_eq_true_eq, ByteArray.size_append, ByteArray.size_extract, eq_iff_iff, iff_true, iff_false, Nat.not_lt] at *); omega)]; try with_reducible rfl)
        rotate_left
        · simp only [Act.put, List.setIfInBounds_toArray, List.set_cons_zero, List.set_cons_succ, i64_w, i32_w]
          rfl
        refine pure_ (i := 2) (N := some 26) (v := ?_) (a' := ?_) #[true, true, true, false, false, false, false, false, false, false, false, false, false, false, false, false, false, false, false, false, false, false, false, false, false, false, false, false, false, false, false, false, false] rfl rfl (any_of HT_.out (by kernel_rfl)) (fun _ _ _ h => h) (Or.inl ⟨by rfl, ?_⟩) ?_ ?_
        rotate_left
        · intro w'
          go_simp
          first | with_reducible rfl | (rw [if_neg (by (try simp only [decide_eq_true_eq, ByteArray.size_append, ByteArray.size_extract, eq_iff_iff, iff_true, iff_false, Nat.not_lt] at *); omega)]; try with_reducible rfl)
        rotate_left
        · simp only [Act.put, List.setIfInBounds_toArray, List.set_cons_zero, List.set_cons_succ, i64_w, i32_w]
          rfl
        refine pure_ (i := 3) (N := some 27) (v := ?_) (a' := ?_) #[true, true, true, true, false, false, false, false, false, false, false, false, false, false, false, false, false, false, false, false, false, false, false, false, false, false, false, false, false, false, false, false, false] rfl rfl (any_of HT_.out (by kernel_rfl)) (fun _ _ _ h => h) (Or.inl ⟨by rfl, ?_⟩) ?_ ?_
        rotate_left
        · intro w'
          go_simp
          first | with_reducible rfl | (rw [if_neg (by (try simp only [decide_eq_true_eq, ByteArray.size_append, ByteArray.size_extract, eq_iff_iff, iff_true, iff_false, Nat.not_lt] at *); omega)]; try with_reducible rfl)
        rotate_left
        · simp only [Act.put, List.setIfInBounds_toArray, List.set_cons_zero, List.set_cons_succ, i64_w, i32_w]
          rfl
        refine pure_ (i := 4) (N := some 28) (v := undef) (a' := ?_) #[true, true, true, true, true, false, false, false, false, false, false, false, false, false, false, false, false, false, false, false, false, false, false, false, false, false, false, false, false, false, false, false, false] rfl rfl (any_of HT_.out (by kernel_rfl)) (fun _ _ _ h => h) (Or.inr ⟨by rfl, rfl⟩) ?_ ?_
        rotate_left
        · simp only [Act.put, List.setIfInBounds_toArray, List.set_cons_zero, List.set_cons_succ, i64_w, i32_w]
          rfl
        refine pure_ (i := 5) (N := some 29) (v := undef) (a' := ?_) #[true, true, true, true, true, true, false, false, false, false, false, false, false, false, false, false, false, false, false, false, false, false, false, false, false, false, false, false, false, false, false, false, false] rfl rfl (any_of HT_.out (by kernel_rfl)) (fun _ _ _ h => h) (Or.inr ⟨by rfl, rfl⟩) ?_ ?_
        rotate_left
        · simp only [Act.put, List.setIfInBounds_toArray, List.set_cons_zero, List.set_cons_succ, i64_w, i32_w]
          rfl
        refine pure_ (i := 6) (N := some 30) (v := undef) (a' := ?_) #[true, true, true, true, true, true, true, false, false, false, false, false, false, false, false, false, false, false, false, false, false, false, false, false, false, false, false, false, false, false, false, false, false] rfl rfl (any_of HT_.out (by kernel_rfl)) (fun _ _ _ h => h) (Or.inr ⟨by rfl, rfl⟩) ?_ ?_
        rotate_left
        · simp only [Act.put, List.setIfInBounds_toArray, List.set_cons_zero, List.set_cons_succ, i64_w, i32_w]
          rfl
        refine pure_ (i := 7) (N := some 31) (v := undef) (a' := ?_) #[true, true, true, true, true, true, true, true, false, false, false, false, false, false, false, false, false, false, false, false, false, false, false, false, false, false, false, false, false, false, false, false, false] rfl rfl (any_of HT_.out (by kernel_rfl)) (fun _ _ _ h => h) (Or.inr ⟨by rfl, rfl⟩) ?_ ?_
        rotate_left
        · simp only [Act.put, List.setIfInBounds_toArray, List.set_cons_zero, List.set_cons_succ, i64_w, i32_w]
          rfl
        refine pure_ (i := 8) (N := some 32) (v := undef) (a' := ?_) #[true, true, true, true, true, true, true, true, true, false, false, false, false, false, false, false, false, false, false, false, false, false, false, false, false, false, false, false, false, false, false, false, false] rfl rfl (any_of HT_.out (by kernel_rfl)) (fun _ _ _ h => h) (Or.inr ⟨by rfl, rfl⟩) ?_ ?_
        rotate_left
        · simp only [Act.put, List.setIfInBounds_toArray, List.set_cons_zero, List.set_cons_succ, i64_w, i32_w]
          rfl
        refine pure_ (i := 9) (N := some 33) (v := undef) (a' := ?_) #[true, true, true, true, true, true, true, true, true, true, false, false, false, false, false, false, false, false, false, false, false, false, false, false, false, false, false, false, false, false, false, false, false] rfl rfl (any_of HT_.out (by kernel_rfl)) (fun _ _ _ h => h) (Or.inr ⟨by rfl, rfl⟩) ?_ ?_
        rotate_left
        · simp only [Act.put, List.setIfInBounds_toArray, List.set_cons_zero, List.set_cons_succ, i64_w, i32_w]
          rfl
        refine pure_ (i := 10) (N := some 34) (v := ?_) (a' := ?_) #[true, true, true, true, true, true, true, true, true, true, true, false, false, false, false, false, false, false, false, false, false, false, false, false, false, false, false, false, false, false, false, false, false] rfl rfl (any_of HT_.out (by kernel_rfl)) (fun _ _ _ h => h) (Or.inl ⟨by rfl, ?_⟩) ?_ ?_
        rotate_left
        · intro w'
          go_simp
          first | with_reducible rfl | (rw [if_neg (by (try simp only [decide_eq_true_eq, ByteArray.size_append, ByteArray.size_extract, eq_iff_iff, iff_true, iff_false, Nat.not_lt] at *); omega)]; try with_reducible rfl)
        rotate_left
        · simp only [Act.put, List.setIfInBounds_toArray, List.set_cons_zero, List.set_cons_succ, i64_w, i32_w]
          rfl
        refine pure_ (i := 11) (N := some 35) (v := ?_) (a' := ?_) #[true, true, true, true, true, true, true, true, true, true, true, true, false, false, false, false, false, false, false, false, false, false, false, false, false, false, false, false, false, false, false, false, false] rfl rfl (any_of HT_.out (by kernel_rfl)) (fun _ _ _ h => h) (Or.inl ⟨by rfl, ?_⟩) ?_ ?_
        rotate_left
        · intro w'
          go_simp
          first | with_reducible rfl | (rw [if_neg (by (try simp only [decide_eq_true_eq, ByteArray.size_append, ByteArray.size_extract, eq_iff_iff, iff_true, iff_false, Nat.not_lt] at *); omega)]; try with_reducible rfl)
        rotate_left
        · simp only [Act.put, List.setIfInBounds_toArray, List.set_cons_zero, List.set_cons_succ, i64_w, i32_w]
          rfl
        refine pure_ (i := 12) (N := some 36) (v := undef) (a' := ?_) #[true, true, true, true, true, true, true, true, true, true, true, true, true, false, false, false, false, false, false, false, false, false, false, false, false, false, false, false, false, false, false, false, false] rfl rfl (any_of HT_.out (by kernel_rfl)) (fun _ _ _ h => h) (Or.inr ⟨by rfl, rfl⟩) ?_ ?_
        rotate_left
        · simp only [Act.put, List.setIfInBounds_toArray, List.set_cons_zero, List.set_cons_succ, i64_w, i32_w]
          rfl
        refine pure_ (i := 13) (N := some 37) (v := undef) (a' := ?_) #[true, true, true, true, true, true, true, true, true, true, true, true, true, true, false, false, false, false, false, false, false, false, false, false, false, false, false, false, false, false, false, false, false] rfl rfl (any_of HT_.out (by kernel_rfl)) (fun _ _ _ h => h) (Or.inr ⟨by rfl, rfl⟩) ?_ ?_
        rotate_left
        · simp only [Act.put, List.setIfInBounds_toArray, List.set_cons_zero, List.set_cons_succ, i64_w, i32_w]
          rfl
        refine pure_ (i := 14) (N := some 38) (v := undef) (a' := ?_) #[true, true, true, true, true, true, true, true, true, true, true, true, true, true, true, false, false, false, false, false, false, false, false, false, false, false, false, false, false, false, false, false, false] rfl rfl (any_of HT_.out (by kernel_rfl)) (fun _ _ _ h => h) (Or.inr ⟨by rfl, rfl⟩) ?_ ?_
        rotate_left
        · simp only [Act.put, List.setIfInBounds_toArray, List.set_cons_zero, List.set_cons_succ, i64_w, i32_w]
          rfl
        refine pure_ (i := 15) (N := some 39) (v := undef) (a' := ?_) #[true, true, true, true, true, true, true, true, true, true, true, true, true, true, true, true, false, false, false, false, false, false, false, false, false, false, false, false, false, false, false, false, false] rfl rfl (any_of HT_.out (by kernel_rfl)) (fun _ _ _ h => h) (Or.inr ⟨by rfl, rfl⟩) ?_ ?_
        rotate_left
        · simp only [Act.put, List.setIfInBounds_toArray, List.set_cons_zero, List.set_cons_succ, i64_w, i32_w]
          rfl
        refine pure_ (i := 16) (N := some 40) (v := undef) (a' := ?_) #[true, true, true, true, true, true, true, true, true, true, true, true, true, true, true, true, true, false, false, false, false, false, false, false, false, false, false, false, false, false, false, false, false] rfl rfl (any_of HT_.out (by kernel_rfl)) (fun _ _ _ h => h) (Or.inr ⟨by rfl, rfl⟩) ?_ ?_
        rotate_left
        · simp only [Act.put, List.setIfInBounds_toArray, List.set_cons_zero, List.set_cons_succ, i64_w, i32_w]
          rfl
        refine pure_ (i := 17) (N := some 41) (v := ?_) (a' := ?_) #[true, true, true, true, true, true, true, true, true, true, true, true, true, true, true, true, true, true, false, false, false, false, false, false, false, false, false, false, false, false, false, false, false] rfl rfl (any_of HT_.out (by kernel_rfl)) (fun _ _ _ h => h) (Or.inl ⟨by rfl, ?_⟩) ?_ ?_
        rotate_left
        · intro w'
          go_simp
          first | with_reducible rfl | (rw [if_neg (by (try simp only [decide_eq_true_eq, ByteArray.size_append, ByteArray.size_extract, eq_iff_iff, iff_true, iff_false, Nat.not_lt] at *); omega)]; try with_reducible rfl)
        rotate_left
        · simp only [Act.put, List.setIfInBounds_toArray, List.set_cons_zero, List.set_cons_succ, i64_w, i32_w]
          rfl
        refine pure_ (i := 18) (N := some 42) (v := ?_) (a' := ?_) #[true, true, true, true, true, true, true, true, true, true, true, true, true, true, true, true, true, true, true, false, false, false, false, false, false, false, false, false, false, false, false, false, false] rfl rfl (any_of HT_.out (by kernel_rfl)) (fun _ _ _ h => h) (Or.inl ⟨by rfl, ?_⟩) ?_ ?_
        rotate_left
        · intro w'
          go_simp
          first | with_reducible rfl | (rw [if_neg (by (try simp only [decide_eq_true_eq, ByteArray.size_append, ByteArray.size_extract, eq_iff_iff, iff_true, iff_false, Nat.not_lt] at *); omega)]; try with_reducible rfl)
        rotate_left
        · simp only [Act.put, List.setIfInBounds_toArray, List.set_cons_zero, List.set_cons_succ, i64_w, i32_w]
          rfl
        refine pure_ (i := 19) (N := some 43) (v := undef) (a' := ?_) #[true, true, true, true, true, true, true, true, true, true, true, true, true, true, true, true, true, true, true, true, false, false, false, false, false, false, false, false, false, false, false, false, false] rfl rfl (any_of HT_.out (by kernel_rfl)) (fun _ _ _ h => h) (Or.inr ⟨by rfl, rfl⟩) ?_ ?_
        rotate_left
        · simp only [Act.put, List.setIfInBounds_toArray, List.set_cons_zero, List.set_cons_succ, i64_w, i32_w]
          rfl
        refine pure_ (i := 20) (N := some 44) (v := undef) (a' := ?_) #[true, true, true, true, true, true, true, true, true, true, true, true, true, true, true, true, true, true, true, true, true, false, false, false, false, false, false, false, false, false, false, false, false] rfl rfl (any_of HT_.out (by kernel_rfl)) (fun _ _ _ h => h) (Or.inr ⟨by rfl, rfl⟩) ?_ ?_
        rotate_left
        · simp only [Act.put, List.setIfInBounds_toArray, List.set_cons_zero, List.set_cons_succ, i64_w, i32_w]
          rfl
        refine pure_ (i := 21) (N := some 45) (v := undef) (a' := ?_) #[true, true, true, true, true, true, true, true, true, true, true, true, true, true, true, true, true, true, true, true, true, true, false, false, false, false, false, false, false, false, false, false, false] rfl rfl (any_of HT_.out (by kernel_rfl)) (fun _ _ _ h => h) (Or.inr ⟨by rfl, rfl⟩) ?_ ?_
        rotate_left
        · simp only [Act.put, List.setIfInBounds_toArray, List.set_cons_zero, List.set_cons_succ, i64_w, i32_w]
          rfl
        refine pure_ (i := 22) (N := some 46) (v := undef) (a' := ?_) #[true, true, true, true, true, true, true, true, true, true, true, true, true, true, true, true, true, true, true, true, true, true, true, false, false, false, false, false, false, false, false, false, false] rfl rfl (any_of HT_.out (by kernel_rfl)) (fun _ _ _ h => h) (Or.inr ⟨by rfl, rfl⟩) ?_ ?_
        rotate_left
        · simp only [Act.put, List.setIfInBounds_toArray, List.set_cons_zero, List.set_cons_succ, i64_w, i32_w]
          rfl
        refine pure_ (i := 23) (N := some 47) (v := undef) (a' := ?_) #[true, true, true, true, true, true, true, true, true, true, true, true, true, true, true, true, true, true, true, true, true, true, true, true, false, false, false, false, false, false, false, false, false] rfl rfl (any_of HT_.out (by kernel_rfl)) (fun _ _ _ h => h) (Or.inr ⟨by rfl, rfl⟩) ?_ ?_
        rotate_left
        · simp only [Act.put, List.setIfInBounds_toArray, List.set_cons_zero, List.set_cons_succ, i64_w, i32_w]
          rfl
        refine pure_ (i := 24) (N := some 48) (v := undef) (a' := ?_) #[true, true, true, true, true, true, true, true, true, true, true, true, true, true, true, true, true, true, true, true, true, true, true, true, true, false, false, false, false, false, false, false, false] rfl rfl (any_of HT_.out (by kernel_rfl)) (fun _ _ _ h => h) (Or.inr ⟨by rfl, rfl⟩) ?_ ?_
        rotate_left
        · simp only [Act.put, List.setIfInBounds_toArray, List.set_cons_zero, List.set_cons_succ, i64_w, i32_w]
          rfl
        refine pure_ (i := 25) (N := some 49) (v := undef) (a' := ?_) #[true, true, true, true, true, true, true, true, true, true, true, true, true, true, true, true, true, true, true, true, true, true, true, true, true, true, false, false, false, false, false, false, false] rfl rfl (any_of HT_.out (by kernel_rfl)) (fun _ _ _ h => h) (Or.inr ⟨by rfl, rfl⟩) ?_ ?_
        rotate_left
        · simp only [Act.put, List.setIfInBounds_toArray, List.set_cons_zero, List.set_cons_succ, i64_w, i32_w]
          rfl
        refine pure_ (i := 26) (N := some 50) (v := undef) (a' := ?_) #[true, true, true, true, true, true, true, true, true, true, true, true, true, true, true, true, true, true, true, true, true, true, true, true, true, true, true, false, false, false, false, false, false] rfl rfl (any_of HT_.out (by kernel_rfl)) (fun _ _ _ h => h) (Or.inr ⟨by rfl, rfl⟩) ?_ ?_
        rotate_left
        · simp only [Act.put, List.setIfInBounds_toArray, List.set_cons_zero, List.set_cons_succ, i64_w, i32_w]
          rfl
        refine pure_ (i := 27) (N := some 51) (v := undef) (a' := ?_) #[true, true, true, true, true, true, true, true, true, true, true, true, true, true, true, true, true, true, true, true, true, true, true, true, true, true, true, true, false, false, false, false, false] rfl rfl (any_of HT_.out (by kernel_rfl)) (fun _ _ _ h => h) (Or.inr ⟨by rfl, rfl⟩) ?_ ?_
        rotate_left
        · simp only [Act.put, List.setIfInBounds_toArray, List.set_cons_zero, List.set_cons_succ, i64_w, i32_w]
          rfl
        refine pure_ (i := 28) (N := some 52) (v := ?_) (a' := ?_) #[true, true, true, true, true, true, true, true, true, true, true, true, true, true, true, true, true, true, true, true, true, true, true, true, true, true, true, true, true, false, false, false, false] rfl rfl (any_of HT_.out (by kernel_rfl)) (fun _ _ _ h => h) (Or.inl ⟨by rfl, ?_⟩) ?_ ?_
        rotate_left
        · intro w'
          go_simp
          first | with_reducible rfl | (rw [if_neg (by (try simp only [decide_eq_true_eq, ByteArray.size_append, ByteArray.size_extract, eq_iff_iff, iff_true, iff_false, Nat.not_lt] at *); omega)]; try with_reducible rfl)
        rotate_left
        · simp only [Act.put, List.setIfInBounds_toArray, List.set_cons_zero, List.set_cons_succ, i64_w, i32_w]
          rfl
        refine pure_ (i := 29) (N := some 53) (v := ?_) (a' := ?_) #[true, true, true, true, true, true, true, true, true, true, true, true, true, true, true, true, true, true, true, true, true, true, true, true, true, true, true, true, true, true, false, false, false] rfl rfl (any_of HT_.out (by kernel_rfl)) (fun _ _ _ h => h) (Or.inl ⟨by rfl, ?_⟩) ?_ ?_
        rotate_left
        · intro w'
          go_simp
          first | with_reducible rfl | (rw [if_neg (by (try simp only [decide_eq_true_eq, ByteArray.size_append, ByteArray.size_extract, eq_iff_iff, iff_true, iff_false, Nat.not_lt] at *); omega)]; try with_reducible rfl)
        rotate_left
        · simp only [Act.put, List.setIfInBounds_toArray, List.set_cons_zero, List.set_cons_succ, i64_w, i32_w]
          rfl
        refine pure_ (i := 30) (N := some 54) (v := undef) (a' := ?_) #[true, true, true, true, true, true, true, true, true, true, true, true, true, true, true, true, true, true, true, true, true, true, true, true, true, true, true, true, true, true, true, false, false] rfl rfl (any_of HT_.out (by kernel_rfl)) (fun _ _ _ h => h) (Or.inr ⟨by rfl, rfl⟩) ?_ ?_
        rotate_left
        · simp only [Act.put, List.setIfInBounds_toArray, List.set_cons_zero, List.set_cons_succ, i64_w, i32_w]
          rfl
        refine pure_ (i := 31) (N := some 55) (v := ?_) (a' := ?_) #[true, true, true, true, true, true, true, true, true, true, true, true, true, true, true, true, true, true, true, true, true, true, true, true, true, true, true, true, true, true, true, true, false] rfl rfl (any_of HT_.out (by kernel_rfl)) (fun _ _ _ h => h) (Or.inl ⟨by rfl, ?_⟩) ?_ ?_
        rotate_left
        · intro w'
          go_simp
          first | with_reducible rfl | (rw [if_neg (by (try simp only [decide_eq_true_eq, ByteArray.size_append, ByteArray.size_extract, eq_iff_iff, iff_true, iff_false, Nat.not_lt] at *); omega)]; try with_reducible rfl)
        rotate_left
        · simp only [Act.put, List.setIfInBounds_toArray, List.set_cons_zero, List.set_cons_succ, i64_w, i32_w]
          rfl
        refine pure_ (i := 32) (N := some 6) (v := ?_) (a' := ?_) #[true, true, true, true, true, true, true, true, true, true, true, true, true, true, true, true, true, true, true, true, true, true, true, true, true, true, true, true, true, true, true, true, true] rfl rfl (any_of HT_.out (by kernel_rfl)) (fun _ _ _ h => h) (Or.inl ⟨by rfl, ?_⟩) ?_ ?_
        rotate_left
        · intro w'
          go_simp
          first | with_reducible rfl | (rw [if_neg (by (try simp only [decide_eq_true_eq, ByteArray.size_append, ByteArray.size_extract, eq_iff_iff, iff_true, iff_false, Nat.not_lt] at *); omega)]; try with_reducible rfl)
        rotate_left
        · simp only [Act.put, List.setIfInBounds_toArray, List.set_cons_zero, List.set_cons_succ, i64_w, i32_w]
          rfl
        refine done_ (done_of HT_.out (by kernel_rfl)) ?_
        try go_wp2
        go_ret
        exact ⟨by first | rfl | (simp [errW_none, errW_some] <;> rfl) | (simp [*, errW_none, errW_some] <;> rfl), by repeat (first | (with_reducible first | exact HB.out | apply below_alloc | apply pw_below_drewN | apply below_drew1) | exact HB.out)⟩

/-- THE ONE PURE STATEMENT of gangwaylaw03_CsumPseudo: yours. -/
def gangwaylaw03_CsumPseudo.Pure : Prop := ∀ (a0 : Int) (a1 : Int) (a2 : ByteArray), (Lit.int .u32 a0).wf = true → (Lit.int .u32 a1).wf = true → a2.size ≤ 140737488351232 → ∃ k, gangwaylaw03_CsumPseudo.f k a0 a1 a2 = some true
theorem gangwaylaw03_CsumPseudo.walk (P : gangwaylaw03_CsumPseudo.Pure) (a0 : Int) (a1 : Int) (a2 : ByteArray) (w : World) (w0 : (Lit.int .u32 a0).wf = true) (w1 : (Lit.int .u32 a1).wf = true) (w2 : a2.size ≤ 140737488351232) :
    Calls Try.prog 9 #[.int .u32 a0, .int .u32 a1, .string a2] w fun e w' => e = .returned (.bool true) ∧ Below w.heap.size w w' := by
  obtain ⟨k, h⟩ := P a0 a1 a2 w0 w1 w2
  refine (gangwaylaw03_CsumPseudo.calls k a0 a1 a2 true w h).mono ?_
  rintro e w' ⟨rfl, hd⟩
  exact ⟨rfl, hd⟩

end Go.Proofs.Ytgfgebngmjchbaa.P
