-- Written by wip/hprint.py (this session's program) through the kit's print program; hand contracts are marked 'by hand'.
import Derived.Test.YtgfgebngmjchbaaPx0
import Derived.Test.YtgfgebngmjchbaaPx4
import Derived.Test.YtgfgebngmjchbaaPx6
import Derived.Test.YtgfgebngmjchbaaPx7
import Derived.Test.YtgfgebngmjchbaaPx9
namespace Go.Proofs.Ytgfgebngmjchbaa.P
open Go.RowKit Go.Proofs.YtgfgebngmjchbaaW.PrintWords Go.Proofs.YtgfgebngmjchbaaW.PrintLast Go.Proofs.YtgfgebngmjchbaaW.PrintMore
attribute [local go_sem] max2_int min2_int max_two min_two max_three min_three max_four min_four   -- for this text's walks alone
set_option linter.unusedVariables false
set_option linter.unusedSimpArgs false

/-! ### gangwaylaw03_CsumSeals: function 5 -/
mutual
def gangwaylaw03_CsumSeals.j0 : Nat → ByteArray → Int → Int → Option (Bool)
  | 0, _, _, _ => none
  | k + 1, x0, x1, x2 => gangwaylaw03_CsumSeals.j1 k x0 x1 x2 (((x0.size : Int) % 2) == 1)
def gangwaylaw03_CsumSeals.j1 : Nat → ByteArray → Int → Int → Bool → Option (Bool)
  | 0, _, _, _, _ => none
  | k + 1, x0, x1, x2, x18 => if x18 = true then (if 0 ≤ (wrap64 ((x0.size : Int) - 1)) then (if (wrap64 ((x0.size : Int) - 1)) ≤ (x0.size : Int) then (gangwaylaw03_CsumSeals.j2 k (x0.extract 0 ((wrap64 ((x0.size : Int) - 1)) : Int).toNat) x1 x2) else (none)) else (none)) else (gangwaylaw03_CsumSeals.j2 k x0 x1 x2)
def gangwaylaw03_CsumSeals.j2 : Nat → ByteArray → Int → Int → Option (Bool)
  | 0, _, _, _ => none
  | k + 1, x0, x1, x2 => (csum_Of.f k (([x0] : List ByteArray))).bind fun t182 => ((gangwayref01_Bytes.f k (IntKind.u64.wrap (Go.bits .and .i64 t182 65535)) 2).bind fun t183 => (gangwaylaw03_CsumSeals.j3 k x0 x1 x2 t183))
def gangwaylaw03_CsumSeals.j3 : Nat → ByteArray → Int → Int → ByteArray → Option (Bool)
  | 0, _, _, _, _ => none
  | k + 1, x0, x1, x2, x7 => (csum_Right.f k (([x0, x7] : List ByteArray))).bind fun t187 => (if t187 = true then ((csum_Right.f k (([x7, x0] : List ByteArray))).bind fun t191 => (if t191 = true then (gangwaylaw03_CsumSeals.j4 k x0 x1 x2 x7 ((x0.size : Int) == 0)) else (gangwaylaw03_CsumSeals.j4 k x0 x1 x2 x7 true))) else (gangwaylaw03_CsumSeals.j4 k x0 x1 x2 x7 true))
def gangwaylaw03_CsumSeals.j4 : Nat → ByteArray → Int → Int → ByteArray → Bool → Option (Bool)
  | 0, _, _, _, _, _ => none
  | k + 1, x0, x1, x2, x7, x46 => if x46 = true then (if (x0.size : Int) = 0 then ((csum_Right.f k (([x0, x7] : List ByteArray))).bind fun t195 => (if t195 = true then ((gangwaylaw03_fixed.f k).bind fun t196 => (some t196)) else (some false))) else (some false)) else (if (x0.size : Int) = 0 then (none) else (gangwaylaw03_CsumSeals.j5 k x0 x2 x7 (Int.tmod (Go.bits .and .i64 x1 65535) (x0.size : Int))))
def gangwaylaw03_CsumSeals.j5 : Nat → ByteArray → Int → ByteArray → Int → Option (Bool)
  | 0, _, _, _, _ => none
  | k + 1, x0, x2, x7, x8 => if 0 ≤ x8 then (if x8 ≤ (x0.size : Int) then ((some (([x2] : List Int) : List Int)).bind fun y197 => (if (x0.extract 0 (x8 : Int).toNat).size + (strOfNums y197).size ≤ 9223372036854775807 then (if 0 ≤ (wrap64 (x8 + 1)) then (if (wrap64 (x8 + 1)) ≤ (x0.size : Int) then (if ((x0.extract 0 (x8 : Int).toNat) ++ (strOfNums y197)).size + (x0.extract ((wrap64 (x8 + 1)) : Int).toNat x0.size).size ≤ 9223372036854775807 then ((csum_Right.f k (([((x0.extract 0 (x8 : Int).toNat) ++ (strOfNums y197)) ++ (x0.extract ((wrap64 (x8 + 1)) : Int).toNat x0.size), x7] : List ByteArray))).bind fun t203 => (if x8 < (x0.size : Int) then (if x2 = (bt x0 x8) then (if (t203 == true) = true then ((gangwaylaw03_fixed.f k).bind fun t204 => (some t204)) else (some false)) else ((gangwayref03_Total.f k (((x0.extract 0 (x8 : Int).toNat) ++ (strOfNums y197)) ++ (x0.extract ((wrap64 (x8 + 1)) : Int).toNat x0.size))).bind fun t205 => ((gangwayref03_Fold.f t205).bind fun t206 => ((gangwayref03_Total.f k x0).bind fun t207 => ((gangwayref03_Fold.f t207).bind fun t208 => (if (t203 == (t206 == t208)) = true then ((gangwaylaw03_fixed.f k).bind fun t209 => (some t209)) else (some false))))))) else (none))) else (none)) else (none)) else (none)) else (none))) else (none)) else (none)
end
def gangwaylaw03_CsumSeals.f (k : Nat) (a0 : ByteArray) (a1 : Int) (a2 : Int) : Option (Bool) := if 0 ≤ (mn (a0.size : Int) 600) then (if (mn (a0.size : Int) 600) ≤ (a0.size : Int) then (gangwaylaw03_CsumSeals.j0 k (a0.extract 0 ((mn (a0.size : Int) 600) : Int).toNat) a1 a2) else (none)) else (none)
theorem gangwaylaw03_CsumSeals.mono_l : ∀ k, (∀ y0 y1 y2, LeO (gangwaylaw03_CsumSeals.j0 k y0 y1 y2) (gangwaylaw03_CsumSeals.j0 (k + 1) y0 y1 y2)) ∧ (∀ y0 y1 y2 y3, LeO (gangwaylaw03_CsumSeals.j1 k y0 y1 y2 y3) (gangwaylaw03_CsumSeals.j1 (k + 1) y0 y1 y2 y3)) ∧ (∀ y0 y1 y2, LeO (gangwaylaw03_CsumSeals.j2 k y0 y1 y2) (gangwaylaw03_CsumSeals.j2 (k + 1) y0 y1 y2)) ∧ (∀ y0 y1 y2 y3, LeO (gangwaylaw03_CsumSeals.j3 k y0 y1 y2 y3) (gangwaylaw03_CsumSeals.j3 (k + 1) y0 y1 y2 y3)) ∧ (∀ y0 y1 y2 y3 y4, LeO (gangwaylaw03_CsumSeals.j4 k y0 y1 y2 y3 y4) (gangwaylaw03_CsumSeals.j4 (k + 1) y0 y1 y2 y3 y4)) ∧ (∀ y0 y1 y2 y3, LeO (gangwaylaw03_CsumSeals.j5 k y0 y1 y2 y3) (gangwaylaw03_CsumSeals.j5 (k + 1) y0 y1 y2 y3))
  | 0 => ⟨fun _ _ _ r h => by simp [gangwaylaw03_CsumSeals.j0] at h, fun _ _ _ _ r h => by simp [gangwaylaw03_CsumSeals.j1] at h, fun _ _ _ r h => by simp [gangwaylaw03_CsumSeals.j2] at h, fun _ _ _ _ r h => by simp [gangwaylaw03_CsumSeals.j3] at h, fun _ _ _ _ _ r h => by simp [gangwaylaw03_CsumSeals.j4] at h, fun _ _ _ _ r h => by simp [gangwaylaw03_CsumSeals.j5] at h⟩
  | k + 1 => by
    obtain ⟨ih0, ih1, ih2, ih3, ih4, ih5⟩ := gangwaylaw03_CsumSeals.mono_l k
    refine ⟨?_, ?_, ?_, ?_, ?_, ?_⟩
    · intro y0 y1 y2
      unfold gangwaylaw03_CsumSeals.j0
      repeat' first
      | (with_reducible exact ih0 _ _ _)
      | (with_reducible exact ih1 _ _ _ _)
      | (with_reducible exact ih2 _ _ _)
      | (with_reducible exact ih3 _ _ _ _)
      | (with_reducible exact ih4 _ _ _ _ _)
      | (with_reducible exact ih5 _ _ _ _)
      | (with_reducible exact csum_Of.mono _ _)
      | (with_reducible exact csum_Right.mono _ _)
      | (with_reducible exact gangwaylaw03_fixed.mono _)
      | (with_reducible exact gangwayref01_Bytes.mono _ _ _)
      | (with_reducible exact gangwayref03_Total.mono _ _)
      | (with_reducible exact LeO.refl _)
      | (with_reducible exact LeO.none _)
      | (with_reducible refine LeO.ite ?_ ?_)
      | (with_reducible refine LeO.bind ?_ (fun _ => ?_))
      | exact ih0 _ _ _
      | exact ih1 _ _ _ _
      | exact ih2 _ _ _
      | exact ih3 _ _ _ _
      | exact ih4 _ _ _ _ _
      | exact ih5 _ _ _ _
      | exact csum_Of.mono _ _
      | exact csum_Right.mono _ _
      | exact gangwaylaw03_fixed.mono _
      | exact gangwayref01_Bytes.mono _ _ _
      | exact gangwayref03_Total.mono _ _
      | exact LeO.none _
      | refine LeO.ite ?_ ?_
      | refine LeO.bind ?_ (fun _ => ?_)
    · intro y0 y1 y2 y3
      unfold gangwaylaw03_CsumSeals.j1
      repeat' first
      | (with_reducible exact ih0 _ _ _)
      | (with_reducible exact ih1 _ _ _ _)
      | (with_reducible exact ih2 _ _ _)
      | (with_reducible exact ih3 _ _ _ _)
      | (with_reducible exact ih4 _ _ _ _ _)
      | (with_reducible exact ih5 _ _ _ _)
      | (with_reducible exact csum_Of.mono _ _)
      | (with_reducible exact csum_Right.mono _ _)
      | (with_reducible exact gangwaylaw03_fixed.mono _)
      | (with_reducible exact gangwayref01_Bytes.mono _ _ _)
      | (with_reducible exact gangwayref03_Total.mono _ _)
      | (with_reducible exact LeO.refl _)
      | (with_reducible exact LeO.none _)
      | (with_reducible refine LeO.ite ?_ ?_)
      | (with_reducible refine LeO.bind ?_ (fun _ => ?_))
      | exact ih0 _ _ _
      | exact ih1 _ _ _ _
      | exact ih2 _ _ _
      | exact ih3 _ _ _ _
      | exact ih4 _ _ _ _ _
      | exact ih5 _ _ _ _
      | exact csum_Of.mono _ _
      | exact csum_Right.mono _ _
      | exact gangwaylaw03_fixed.mono _
      | exact gangwayref01_Bytes.mono _ _ _
      | exact gangwayref03_Total.mono _ _
      | exact LeO.none _
      | refine LeO.ite ?_ ?_
      | refine LeO.bind ?_ (fun _ => ?_)
    · intro y0 y1 y2
      unfold gangwaylaw03_CsumSeals.j2
      repeat' first
      | (with_reducible exact ih0 _ _ _)
      | (with_reducible exact ih1 _ _ _ _)
      | (with_reducible exact ih2 _ _ _)
      | (with_reducible exact ih3 _ _ _ _)
      | (with_reducible exact ih4 _ _ _ _ _)
      | (with_reducible exact ih5 _ _ _ _)
      | (with_reducible exact csum_Of.mono _ _)
      | (with_reducible exact csum_Right.mono _ _)
      | (with_reducible exact gangwaylaw03_fixed.mono _)
      | (with_reducible exact gangwayref01_Bytes.mono _ _ _)
      | (with_reducible exact gangwayref03_Total.mono _ _)
      | (with_reducible exact LeO.refl _)
      | (with_reducible exact LeO.none _)
      | (with_reducible refine LeO.ite ?_ ?_)
      | (with_reducible refine LeO.bind ?_ (fun _ => ?_))
      | exact ih0 _ _ _
      | exact ih1 _ _ _ _
      | exact ih2 _ _ _
      | exact ih3 _ _ _ _
      | exact ih4 _ _ _ _ _
      | exact ih5 _ _ _ _
      | exact csum_Of.mono _ _
      | exact csum_Right.mono _ _
      | exact gangwaylaw03_fixed.mono _
      | exact gangwayref01_Bytes.mono _ _ _
      | exact gangwayref03_Total.mono _ _
      | exact LeO.none _
      | refine LeO.ite ?_ ?_
      | refine LeO.bind ?_ (fun _ => ?_)
    · intro y0 y1 y2 y3
      unfold gangwaylaw03_CsumSeals.j3
      repeat' first
      | (with_reducible exact ih0 _ _ _)
      | (with_reducible exact ih1 _ _ _ _)
      | (with_reducible exact ih2 _ _ _)
      | (with_reducible exact ih3 _ _ _ _)
      | (with_reducible exact ih4 _ _ _ _ _)
      | (with_reducible exact ih5 _ _ _ _)
      | (with_reducible exact csum_Of.mono _ _)
      | (with_reducible exact csum_Right.mono _ _)
      | (with_reducible exact gangwaylaw03_fixed.mono _)
      | (with_reducible exact gangwayref01_Bytes.mono _ _ _)
      | (with_reducible exact gangwayref03_Total.mono _ _)
      | (with_reducible exact LeO.refl _)
      | (with_reducible exact LeO.none _)
      | (with_reducible refine LeO.ite ?_ ?_)
      | (with_reducible refine LeO.bind ?_ (fun _ => ?_))
      | exact ih0 _ _ _
      | exact ih1 _ _ _ _
      | exact ih2 _ _ _
      | exact ih3 _ _ _ _
      | exact ih4 _ _ _ _ _
      | exact ih5 _ _ _ _
      | exact csum_Of.mono _ _
      | exact csum_Right.mono _ _
      | exact gangwaylaw03_fixed.mono _
      | exact gangwayref01_Bytes.mono _ _ _
      | exact gangwayref03_Total.mono _ _
      | exact LeO.none _
      | refine LeO.ite ?_ ?_
      | refine LeO.bind ?_ (fun _ => ?_)
    · intro y0 y1 y2 y3 y4
      unfold gangwaylaw03_CsumSeals.j4
      repeat' first
      | (with_reducible exact ih0 _ _ _)
      | (with_reducible exact ih1 _ _ _ _)
      | (with_reducible exact ih2 _ _ _)
      | (with_reducible exact ih3 _ _ _ _)
      | (with_reducible exact ih4 _ _ _ _ _)
      | (with_reducible exact ih5 _ _ _ _)
      | (with_reducible exact csum_Of.mono _ _)
      | (with_reducible exact csum_Right.mono _ _)
      | (with_reducible exact gangwaylaw03_fixed.mono _)
      | (with_reducible exact gangwayref01_Bytes.mono _ _ _)
      | (with_reducible exact gangwayref03_Total.mono _ _)
      | (with_reducible exact LeO.refl _)
      | (with_reducible exact LeO.none _)
      | (with_reducible refine LeO.ite ?_ ?_)
      | (with_reducible refine LeO.bind ?_ (fun _ => ?_))
      | exact ih0 _ _ _
      | exact ih1 _ _ _ _
      | exact ih2 _ _ _
      | exact ih3 _ _ _ _
      | exact ih4 _ _ _ _ _
      | exact ih5 _ _ _ _
      | exact csum_Of.mono _ _
      | exact csum_Right.mono _ _
      | exact gangwaylaw03_fixed.mono _
      | exact gangwayref01_Bytes.mono _ _ _
      | exact gangwayref03_Total.mono _ _
      | exact LeO.none _
      | refine LeO.ite ?_ ?_
      | refine LeO.bind ?_ (fun _ => ?_)
    · intro y0 y1 y2 y3
      unfold gangwaylaw03_CsumSeals.j5
      repeat' first
      | (with_reducible exact ih0 _ _ _)
      | (with_reducible exact ih1 _ _ _ _)
      | (with_reducible exact ih2 _ _ _)
      | (with_reducible exact ih3 _ _ _ _)
      | (with_reducible exact ih4 _ _ _ _ _)
      | (with_reducible exact ih5 _ _ _ _)
      | (with_reducible exact csum_Of.mono _ _)
      | (with_reducible exact csum_Right.mono _ _)
      | (with_reducible exact gangwaylaw03_fixed.mono _)
      | (with_reducible exact gangwayref01_Bytes.mono _ _ _)
      | (with_reducible exact gangwayref03_Total.mono _ _)
      | (with_reducible exact LeO.refl _)
      | (with_reducible exact LeO.none _)
      | (with_reducible refine LeO.ite ?_ ?_)
      | (with_reducible refine LeO.bind ?_ (fun _ => ?_))
      | exact ih0 _ _ _
      | exact ih1 _ _ _ _
      | exact ih2 _ _ _
      | exact ih3 _ _ _ _
      | exact ih4 _ _ _ _ _
      | exact ih5 _ _ _ _
      | exact csum_Of.mono _ _
      | exact csum_Right.mono _ _
      | exact gangwaylaw03_fixed.mono _
      | exact gangwayref01_Bytes.mono _ _ _
      | exact gangwayref03_Total.mono _ _
      | exact LeO.none _
      | refine LeO.ite ?_ ?_
      | refine LeO.bind ?_ (fun _ => ?_)
theorem gangwaylaw03_CsumSeals.mono : ∀ a0 a1 a2 k, LeO (gangwaylaw03_CsumSeals.f k a0 a1 a2) (gangwaylaw03_CsumSeals.f (k + 1) a0 a1 a2) := by
  intro a0 a1 a2 k
  obtain ⟨ih0, ih1, ih2, ih3, ih4, ih5⟩ := gangwaylaw03_CsumSeals.mono_l k
  unfold gangwaylaw03_CsumSeals.f
  repeat' first
      | (with_reducible exact ih0 _ _ _)
      | (with_reducible exact ih1 _ _ _ _)
      | (with_reducible exact ih2 _ _ _)
      | (with_reducible exact ih3 _ _ _ _)
      | (with_reducible exact ih4 _ _ _ _ _)
      | (with_reducible exact ih5 _ _ _ _)
      | (with_reducible exact csum_Of.mono _ _)
      | (with_reducible exact csum_Right.mono _ _)
      | (with_reducible exact gangwaylaw03_fixed.mono _)
      | (with_reducible exact gangwayref01_Bytes.mono _ _ _)
      | (with_reducible exact gangwayref03_Total.mono _ _)
      | (with_reducible exact LeO.refl _)
      | (with_reducible exact LeO.none _)
      | (with_reducible refine LeO.ite ?_ ?_)
      | (with_reducible refine LeO.bind ?_ (fun _ => ?_))
      | exact ih0 _ _ _
      | exact ih1 _ _ _ _
      | exact ih2 _ _ _
      | exact ih3 _ _ _ _
      | exact ih4 _ _ _ _ _
      | exact ih5 _ _ _ _
      | exact csum_Of.mono _ _
      | exact csum_Right.mono _ _
      | exact gangwaylaw03_fixed.mono _
      | exact gangwayref01_Bytes.mono _ _ _
      | exact gangwayref03_Total.mono _ _
      | exact LeO.none _
      | refine LeO.ite ?_ ?_
      | refine LeO.bind ?_ (fun _ => ?_)
def gangwaylaw03_CsumSeals.T8 : Bool × List (List Nat × List Nat) := (true, [([], []), ([], []), ([0, 1], [0, 1]), ([], []), ([3], [3]), ([4], [4]), ([2, 5], [2, 5]), ([], []), ([], []), ([8], [8]), ([7, 9], [7, 9]), ([6, 10], [6, 10]), ([11, 0, 1, 2, 3, 4, 5, 6, 7, 8, 9, 10, 11], [11])])
def gangwaylaw03_CsumSeals.B8 : List Nat := [0, 0, 3, 0, 8, 24, 63, 0, 0, 256, 896, 2047, 4095]
theorem gangwaylaw03_CsumSeals.tab8 : rtab .any (opsOf Try.f5 8) = gangwaylaw03_CsumSeals.T8 := by kernel_rfl
theorem gangwaylaw03_CsumSeals.bits8 : waitsOk gangwaylaw03_CsumSeals.T8.2 gangwaylaw03_CsumSeals.B8 = true := by kernel_rfl
def gangwaylaw03_CsumSeals.T9 : Bool × List (List Nat × List Nat) := (true, [([], []), ([], []), ([0, 1], [0, 1]), ([2], [2]), ([], []), ([], []), ([], []), ([5, 6], [5, 6]), ([4, 7], [4, 7]), ([8, 3], [8]), ([9], [9]), ([10, 9, 9], [9, 10]), ([11, 11, 9], [9, 11]), ([9], [9]), ([13, 12, 9], [9, 13]), ([14, 14, 9], [9, 14]), ([12, 15, 9], [9, 12, 15]), ([9, 16], [9, 16]), ([3, 17], [3, 17]), ([18, 15], [18]), ([19, 19], [19]), ([19, 20], [19, 20]), ([21, 20, 0, 1, 2, 3, 4, 5, 6, 7, 8, 9, 10, 11, 12, 13, 14, 15, 16, 17, 18, 19, 20, 21], [21])])
def gangwaylaw03_CsumSeals.B9 : List Nat := [0, 0, 3, 7, 0, 0, 0, 96, 240, 511, 1023, 2047, 4095, 1023, 16383, 32767, 65535, 131071, 262143, 524287, 1048575, 2097151, 4194303]
theorem gangwaylaw03_CsumSeals.tab9 : rtab .any (opsOf Try.f5 9) = gangwaylaw03_CsumSeals.T9 := by kernel_rfl
theorem gangwaylaw03_CsumSeals.bits9 : waitsOk gangwaylaw03_CsumSeals.T9.2 gangwaylaw03_CsumSeals.B9 = true := by kernel_rfl
set_option maxHeartbeats 8000000 in
set_option maxRecDepth 100000 in
theorem gangwaylaw03_CsumSeals.calls (k : Nat) (a0 : ByteArray) (a1 : Int) (a2 : Int) (r : Bool) (w : World) (h : gangwaylaw03_CsumSeals.f k a0 a1 a2 = some r) :
    Calls Try.prog 5 #[.string a0, .int .i64 a1, .int .u8 a2] w fun e w' => e = .returned (.bool r) ∧ Below w.heap.size w w' := by
  have HB := Aside0.mk (Below.refl w.heap.size w)
  have H : (if 0 ≤ (mn (a0.size : Int) 600) then (if (mn (a0.size : Int) 600) ≤ (a0.size : Int) then (gangwaylaw03_CsumSeals.j0 k (a0.extract 0 ((mn (a0.size : Int) 600) : Int).toNat) a1 a2) else (none)) else (none)) = some r := h
  clear h
  have HC4 := Aside0.mk H
  clear H
  go_enter Try.func5, Try.ntmps5
  go_upto_region 1 with (fail)
  go_cut [0] (fun v0 wc => ∃ (kq : Nat) (x0_3 : ByteArray), v0 = .string x0_3 ∧ Aside0 (gangwaylaw03_CsumSeals.j0 kq x0_3 a1 a2 = some r) ∧ Aside0 (kq ≤ k) ∧ Aside0 (Below w.heap.size w wc))
  case first =>
    have H := HC4.out
    clear HC4
    obtain ⟨ji5, hji5⟩ : ∃ j_ : Int, (mn (a0.size : Int) 600) = j_ := ⟨_, rfl⟩
    replace H : (if 0 ≤ (ji5) then (if (ji5) ≤ (a0.size : Int) then (gangwaylaw03_CsumSeals.j0 k (a0.extract 0 ((ji5) : Int).toNat) a1 a2) else (none)) else (none)) = some r := by first | (rw [hji5] at H; exact H) | (simp only [hji5] at H ⊢; exact H)
    (try (have hji5h : ji5 ≤ 600 := by (rw [← hji5]; unfold mn; (repeat' split) <;> omega)))
    (try (have hji5g : ji5 ≤ 64 := by omega))
    (try (have hji5l : 0 ≤ ji5 := by (rw [← hji5]; unfold mn; (repeat' split) <;> omega)))
    (try (have hji5m : 0 ≤ ji5 := by omega))
    have hji5_ : (if 600 < (a0.size : Int) then 600 else (a0.size : Int)) = ji5 := hji5
    by_cases c6 : 0 ≤ (ji5)
    · rw [if_pos c6] at H
      have c6b0 := eq_true c6
      have c6b1 : decide (0 ≤ (ji5)) = true := decide_eq_true c6
      clear c6
      by_cases c7 : (ji5) ≤ (a0.size : Int)
      · rw [if_pos c7] at H
        have c7b0 := eq_true c7
        have c7b1 : decide ((ji5) ≤ (a0.size : Int)) = true := decide_eq_true c7
        clear c7
        have H' := Aside0.mk H
        clear H
        go_wp2
        go_meet
        case rel => exact ⟨_, (a0.extract 0 ((ji5) : Int).toNat), (by first | rfl | (simp; done) | (simp only [← hji5] <;> (first | rfl | simp)) | (simp [*]; done)), H', ⟨by first | omega | exact Nat.le_refl _⟩, ⟨by repeat (first | (with_reducible first | exact HB.out | apply below_alloc | apply pw_below_drewN | apply below_drew1) | exact HB.out)⟩⟩
      · rw [if_neg c7] at H
        exact absurd H (by simp)
    · rw [if_neg c6] at H
      exact absurd H (by simp)
  case rest =>
    clear HC4
    try clear p2
    try clear c5
    try clear c6
    try clear c6b0
    try clear c6b1
    try clear c7
    try clear c7b0
    try clear c7b1
    obtain ⟨kq, x0_3, rfl, HA, HJ3, HB⟩ := hcut
    cases kq with
    | zero => exact absurd HA.out (by simp [gangwaylaw03_CsumSeals.j0])
    | succ kj3 =>
      have H := HA.out
      clear HA
      simp only [gangwaylaw03_CsumSeals.j0] at H
      have HC8 := Aside0.mk H
      clear H
      go_upto_region 2 with (fail)
      go_cut [18] (fun v18 wc => ∃ (kq : Nat) (x18_7 : Bool), v18 = .bool x18_7 ∧ Aside0 (gangwaylaw03_CsumSeals.j1 kq x0_3 a1 a2 x18_7 = some r) ∧ Aside0 (kq ≤ kj3) ∧ Aside0 (Below w.heap.size w wc))
      case first =>
        have H := HC8.out
        clear HC8
        have H' := Aside0.mk H
        clear H
        go_wp2
        go_meet
        case rel => exact ⟨_, ((((x0_3.size : Int) % 2) == 1)), (by first | rfl | (simp; done) | (simp [*]; done)), H', ⟨by have := HJ3.out; first | omega | exact Nat.le_refl _⟩, ⟨by repeat (first | (with_reducible first | exact HB.out | apply below_alloc | apply pw_below_drewN | apply below_drew1) | exact HB.out)⟩⟩
      case rest =>
        clear HC8
        try clear p2
        try clear c5
        try clear c6
        try clear c6b0
        try clear c6b1
        try clear c7
        try clear c7b0
        try clear c7b1
        try clear p2
        obtain ⟨kq, x18_7, rfl, HA, HJ7, HB⟩ := hcut
        cases kq with
        | zero => exact absurd HA.out (by simp [gangwaylaw03_CsumSeals.j1])
        | succ kj7 =>
          have H := HA.out
          clear HA
          simp only [gangwaylaw03_CsumSeals.j1] at H
          have HC9 := Aside0.mk H
          clear H
          go_upto_if 18 with (fail)
          go_cut [0] (fun v0 wc => ∃ (kq : Nat) (x0_8 : ByteArray), v0 = .string x0_8 ∧ Aside0 (gangwaylaw03_CsumSeals.j2 kq x0_8 a1 a2 = some r) ∧ Aside0 (kq ≤ kj7) ∧ Aside0 (Below w.heap.size w wc))
          case first =>
            have H := HC9.out
            clear HC9
            by_cases c10 : x18_7 = true
            · subst c10
              have H1 : (if 0 ≤ (wrap64 ((x0_3.size : Int) - 1)) then (if (wrap64 ((x0_3.size : Int) - 1)) ≤ (x0_3.size : Int) then (gangwaylaw03_CsumSeals.j2 kj7 (x0_3.extract 0 ((wrap64 ((x0_3.size : Int) - 1)) : Int).toNat) a1 a2) else (none)) else (none)) = some r := by rw [if_pos rfl] at H; exact H
              clear H
              have H := H1
              clear H1
              obtain ⟨ji11, hji11⟩ : ∃ j_ : Int, (wrap64 ((x0_3.size : Int) - 1)) = j_ := ⟨_, rfl⟩
              replace H : (if 0 ≤ (ji11) then (if (ji11) ≤ (x0_3.size : Int) then (gangwaylaw03_CsumSeals.j2 kj7 (x0_3.extract 0 ((ji11) : Int).toNat) a1 a2) else (none)) else (none)) = some r := by first | (rw [hji11] at H; exact H) | (simp only [hji11] at H ⊢; exact H)
              have hji11w : (IntKind.i64.wrap ((x0_3.size : Int) - 1)) = ji11 := (i64_w _).trans hji11
              by_cases c12 : 0 ≤ (ji11)
              · rw [if_pos c12] at H
                have c12b0 := eq_true c12
                have c12b1 : decide (0 ≤ (ji11)) = true := decide_eq_true c12
                clear c12
                by_cases c13 : (ji11) ≤ (x0_3.size : Int)
                · rw [if_pos c13] at H
                  have c13b0 := eq_true c13
                  have c13b1 : decide ((ji11) ≤ (x0_3.size : Int)) = true := decide_eq_true c13
                  clear c13
                  have H' := Aside0.mk H
                  clear H
                  go_wp2
                  go_meet
                  case rel => exact ⟨_, (x0_3.extract 0 ((ji11) : Int).toNat), (by first | rfl | (simp; done) | (simp only [← hji11] <;> (first | rfl | simp)) | (simp [*]; done)), H', ⟨by have := HJ3.out; have := HJ7.out; first | omega | exact Nat.le_refl _⟩, ⟨by repeat (first | (with_reducible first | exact HB.out | apply below_alloc | apply pw_below_drewN | apply below_drew1) | exact HB.out)⟩⟩
                · rw [if_neg c13] at H
                  exact absurd H (by simp)
              · rw [if_neg c12] at H
                exact absurd H (by simp)
            · replace c10 := Bool.eq_false_iff.mpr c10
              subst c10
              have H1 : (gangwaylaw03_CsumSeals.j2 kj7 x0_3 a1 a2) = some r := by rw [if_neg (show ¬ (false = true) by decide)] at H; exact H
              clear H
              have H := H1
              clear H1
              have H' := Aside0.mk H
              clear H
              go_wp2
              go_meet
              case rel => exact ⟨_, (x0_3), (by first | rfl | (simp; done) | (simp [*]; done)), H', ⟨by have := HJ3.out; have := HJ7.out; first | omega | exact Nat.le_refl _⟩, ⟨by repeat (first | (with_reducible first | exact HB.out | apply below_alloc | apply pw_below_drewN | apply below_drew1) | exact HB.out)⟩⟩
          case rest =>
            clear HC9
            try clear c1
            try clear p2
            try clear c5
            try clear c6
            try clear c6b0
            try clear c6b1
            try clear p6
            try clear c7
            try clear c7b0
            try clear c7b1
            try clear c10
            try clear c12
            try clear c12b0
            try clear c12b1
            try clear c13
            try clear c13b0
            try clear c13b1
            try clear p2
            obtain ⟨kq, x0_8, rfl, HA, HJ8, HB⟩ := hcut
            cases kq with
            | zero => exact absurd HA.out (by simp [gangwaylaw03_CsumSeals.j2])
            | succ kj8 =>
              have H := HA.out
              clear HA
              simp only [gangwaylaw03_CsumSeals.j2] at H
              have HC14 := Aside0.mk H
              clear H
              go_upto_region 4 with (fail)
              go_cut [7] (fun v7 wc => ∃ (kq : Nat) (x7_13 : ByteArray), v7 = .string x7_13 ∧ Aside0 (gangwaylaw03_CsumSeals.j3 kq x0_8 a1 a2 x7_13 = some r) ∧ Aside0 (kq ≤ kj8) ∧ Aside0 (Below w.heap.size w wc))
              case first =>
                have H := HC14.out
                clear HC14
                obtain ⟨y179, hy179⟩ : ∃ y_ : List ByteArray, y_ = (([x0_8] : List ByteArray)) := ⟨_, rfl⟩
                replace H : ((csum_Of.f kj8 y179).bind fun t182 => ((gangwayref01_Bytes.f kj8 (IntKind.u64.wrap (Go.bits .and .i64 t182 65535)) 2).bind fun t183 => (gangwaylaw03_CsumSeals.j3 kj8 x0_8 a1 a2 t183))) = some r := by first | (rw [hy179]; with_reducible exact H) | (have H2_ := (Option.bind_some _ _).symm.trans H; rw [hy179]; with_reducible exact H2_) | (have H2_ := (Option.bind_some _ _).symm.trans H; with_reducible exact H2_) | with_reducible exact H | (rw [hy179]; exact H) | exact H
                have Ny179 := Aside0.mk hy179
                clear hy179
                replace H := Option.bind_eq_some_iff.mp H
                obtain ⟨t182, A150, H⟩ := H
                replace H : ((gangwayref01_Bytes.f kj8 (IntKind.u64.wrap (Go.bits .and .i64 t182 65535)) 2).bind fun t183 => (gangwaylaw03_CsumSeals.j3 kj8 x0_8 a1 a2 t183)) = some r := H
                have A15 := Aside0.mk A150
                clear A150
                replace H := Option.bind_eq_some_iff.mp H
                obtain ⟨t183, A160, H⟩ := H
                replace H : (gangwaylaw03_CsumSeals.j3 kj8 x0_8 a1 a2 t183) = some r := H
                have A16 := Aside0.mk A160
                clear A160
                have H' := Aside0.mk H
                clear H
                go_wp2_with (first | ((with_reducible refine gate_dst (N := 25) rfl ?_); (try (refine gate_guard (by rfl) ?_; dsimp only)); refine Kd.R_lit Kd.string _ 9 ?hg (N := 25) ?hd (xs := ([x0_8] : List ByteArray)) (inner := [.string x0_8]) (ok := fun _ => True) (okp := fun _ => True) ?hr ?hp (fun _ hk => hk) trivial (Below.refl _ _) (Nat.le_refl _) (by simp) ?_; (case hd => rfl); (case hg => rfl); (case hr => first | (go_simp; done) | (go_simp; rfl)); (case hp => exact (Reps.one (show Kd.M Kd.string _ _ _ x0_8 [.string x0_8] from rfl) (Reps.none _ _))); intro v180 w17 ho18 hb hg_ hnew_; clear hg_ hnew_; (first | rw [← Ny179.out] at ho18 | (simp only [Int.reduceToNat] at ho18; rw [← Ny179.out] at ho18)); have n0_ := Aside0.mk (Kd.R_lower ho18 (below_size (by repeat (first | (with_reducible first | exact HB.out | apply below_alloc | apply pw_below_drewN | apply below_drew1) | exact HB.out)))); have n1_ := Aside0.mk (below_step (by repeat (first | (with_reducible first | exact HB.out | apply below_alloc | apply pw_below_drewN | apply below_drew1) | exact HB.out)) hb); clear HB; have HO181 := n0_; have HB := n1_; clear n0_ n1_; clear hb ho18; obtain ⟨Ao19, co19, eo19⟩ := Kd.R_slice HO181.out; subst eo19) | ((with_reducible refine gate_callee (f := 12) rfl ?_); refine goesL_ (some 26) rfl rfl Try.func12 (by kernel_rfl) rfl #[.slice Ao19 y179.length co19] rfl (by (try simp only [List.map_toArray, List.map_cons, List.map_nil]); first | done | rfl | (simp only [List.length_drop, List.length_take]; rfl)) ?_; (with_reducible refine (csum_Of.calls kj8 _ _ y179 t182 _ ?side1 ?side2 A15.out).mono ?_); (case side1 => repeat (first | exact (Kd.R_reads' HO181.out).2.2 | (with_reducible refine Kd.C_alloc ?_ _) | (with_reducible refine Kd.C_drewN ?_ _) | (with_reducible refine Kd.C_drew ?_))); (case side2 => exact (Kd.R_reads' HO181.out).2.1); rintro e w20 ⟨rfl, hb⟩; refine ⟨_, rfl, ?_⟩; have n0_ := Aside0.mk (Kd.R_below (by (with_reducible repeat (first | apply Kd.R_alloc | apply Kd.R_drewN | apply Kd.R_drew)); exact HO181.out) hb); have n1_ := Aside0.mk (below_step (by repeat (first | (with_reducible first | exact HB.out | apply below_alloc | apply pw_below_drewN | apply below_drew1) | exact HB.out)) hb); clear HO181; clear HB; have HO181 := n0_; have HB := n1_; clear n0_ n1_; (try clear hb); (try clear hb2); (try clear hk); (try clear hi)) | ((with_reducible refine gate_callee (f := 19) rfl ?_); refine goesL_ (some 29) rfl rfl Try.func19 (by kernel_rfl) rfl #[.int .u64 (IntKind.u64.wrap (Go.bits .and .i64 t182 65535)), .int .i64 2] rfl (by (try simp only [List.map_toArray, List.map_cons, List.map_nil]); first | done | rfl | (simp only [List.length_drop, List.length_take]; rfl)) ?_; (with_reducible refine (gangwayref01_Bytes.calls kj8 (IntKind.u64.wrap (Go.bits .and .i64 t182 65535)) 2 t183 _ A16.out).mono ?_); rintro e w21 ⟨rfl, hb⟩; refine ⟨_, rfl, ?_⟩; have n0_ := Aside0.mk (Kd.R_below (by (with_reducible repeat (first | apply Kd.R_alloc | apply Kd.R_drewN | apply Kd.R_drew)); exact HO181.out) hb); have n1_ := Aside0.mk (below_step (by repeat (first | (with_reducible first | exact HB.out | apply below_alloc | apply pw_below_drewN | apply below_drew1) | exact HB.out)) hb); clear HO181; clear HB; have HO181 := n0_; have HB := n1_; clear n0_ n1_; (try clear hb); (try clear hb2); (try clear hk); (try clear hi)))
                go_meet
                case rel => exact ⟨_, (t183), (by first | rfl | (simp; done) | (simp [*]; done)), H', ⟨by have := HJ3.out; have := HJ7.out; have := HJ8.out; first | omega | exact Nat.le_refl _⟩, ⟨by repeat (first | (with_reducible first | exact HB.out | apply below_alloc | apply pw_below_drewN | apply below_drew1) | exact HB.out)⟩⟩
              case rest =>
                clear HC14
                try clear c1
                try clear p2
                try clear c5
                try clear c6
                try clear c6b0
                try clear c6b1
                try clear p6
                try clear c7
                try clear c7b0
                try clear c7b1
                try clear c10
                try clear c12
                try clear c12b0
                try clear c12b1
                try clear c13
                try clear c13b0
                try clear c13b1
                try clear c19
                try clear p2
                try clear p6
                obtain ⟨kq, x7_13, rfl, HA, HJ13, HB⟩ := hcut
                cases kq with
                | zero => exact absurd HA.out (by simp [gangwaylaw03_CsumSeals.j3])
                | succ kj13 =>
                  have H := HA.out
                  clear HA
                  simp only [gangwaylaw03_CsumSeals.j3] at H
                  have HC22 := Aside0.mk H
                  clear H
                  go_upto_region 5 with (fail)
                  go_cut [46] (fun v46 wc => ∃ (kq : Nat) (x46_21 : Bool), v46 = .bool x46_21 ∧ Aside0 (gangwaylaw03_CsumSeals.j4 kq x0_8 a1 a2 x7_13 x46_21 = some r) ∧ Aside0 (kq ≤ kj13) ∧ Aside0 (Below w.heap.size w wc))
                  case first =>
                    have H := HC22.out
                    clear HC22
                    obtain ⟨y184, hy184⟩ : ∃ y_ : List ByteArray, y_ = (([x0_8, x7_13] : List ByteArray)) := ⟨_, rfl⟩
                    replace H : ((csum_Right.f kj13 y184).bind fun t187 => (if t187 = true then ((csum_Right.f kj13 (([x7_13, x0_8] : List ByteArray))).bind fun t191 => (if t191 = true then (gangwaylaw03_CsumSeals.j4 kj13 x0_8 a1 a2 x7_13 ((x0_8.size : Int) == 0)) else (gangwaylaw03_CsumSeals.j4 kj13 x0_8 a1 a2 x7_13 true))) else (gangwaylaw03_CsumSeals.j4 kj13 x0_8 a1 a2 x7_13 true))) = some r := by first | (rw [hy184]; with_reducible exact H) | (have H2_ := (Option.bind_some _ _).symm.trans H; rw [hy184]; with_reducible exact H2_) | (have H2_ := (Option.bind_some _ _).symm.trans H; with_reducible exact H2_) | with_reducible exact H | (rw [hy184]; exact H) | exact H
                    have Ny184 := Aside0.mk hy184
                    clear hy184
                    replace H := Option.bind_eq_some_iff.mp H
                    obtain ⟨t187, A230, H⟩ := H
                    replace H : (if t187 = true then ((csum_Right.f kj13 (([x7_13, x0_8] : List ByteArray))).bind fun t191 => (if t191 = true then (gangwaylaw03_CsumSeals.j4 kj13 x0_8 a1 a2 x7_13 ((x0_8.size : Int) == 0)) else (gangwaylaw03_CsumSeals.j4 kj13 x0_8 a1 a2 x7_13 true))) else (gangwaylaw03_CsumSeals.j4 kj13 x0_8 a1 a2 x7_13 true)) = some r := H
                    have A23 := Aside0.mk A230
                    clear A230
                    by_cases c24 : t187 = true
                    · subst c24
                      have H1 : ((csum_Right.f kj13 (([x7_13, x0_8] : List ByteArray))).bind fun t191 => (if t191 = true then (gangwaylaw03_CsumSeals.j4 kj13 x0_8 a1 a2 x7_13 ((x0_8.size : Int) == 0)) else (gangwaylaw03_CsumSeals.j4 kj13 x0_8 a1 a2 x7_13 true))) = some r := by rw [if_pos rfl] at H; exact H
                      clear H
                      have H := H1
                      clear H1
                      obtain ⟨y188, hy188⟩ : ∃ y_ : List ByteArray, y_ = (([x7_13, x0_8] : List ByteArray)) := ⟨_, rfl⟩
                      replace H : ((csum_Right.f kj13 y188).bind fun t191 => (if t191 = true then (gangwaylaw03_CsumSeals.j4 kj13 x0_8 a1 a2 x7_13 ((x0_8.size : Int) == 0)) else (gangwaylaw03_CsumSeals.j4 kj13 x0_8 a1 a2 x7_13 true))) = some r := by first | (rw [hy188]; with_reducible exact H) | (have H2_ := (Option.bind_some _ _).symm.trans H; rw [hy188]; with_reducible exact H2_) | (have H2_ := (Option.bind_some _ _).symm.trans H; with_reducible exact H2_) | with_reducible exact H | (rw [hy188]; exact H) | exact H
                      have Ny188 := Aside0.mk hy188
                      clear hy188
                      replace H := Option.bind_eq_some_iff.mp H
                      obtain ⟨t191, A250, H⟩ := H
                      replace H : (if t191 = true then (gangwaylaw03_CsumSeals.j4 kj13 x0_8 a1 a2 x7_13 ((x0_8.size : Int) == 0)) else (gangwaylaw03_CsumSeals.j4 kj13 x0_8 a1 a2 x7_13 true)) = some r := H
                      have A25 := Aside0.mk A250
                      clear A250
                      by_cases c26 : t191 = true
                      · subst c26
                        have H1 : (gangwaylaw03_CsumSeals.j4 kj13 x0_8 a1 a2 x7_13 ((x0_8.size : Int) == 0)) = some r := by rw [if_pos rfl] at H; exact H
                        clear H
                        have H := H1
                        clear H1
                        have H' := Aside0.mk H
                        clear H
                        go_wp2_with (first | ((with_reducible refine gate_dst (N := 32) rfl ?_); (try (refine gate_guard (by rfl) ?_; dsimp only)); refine Kd.R_lit Kd.string _ 9 ?hg (N := 32) ?hd (xs := ([x0_8, x7_13] : List ByteArray)) (inner := [.string x0_8, .string x7_13]) (ok := fun _ => True) (okp := fun _ => True) ?hr ?hp (fun _ hk => hk) trivial (Below.refl _ _) (Nat.le_refl _) (by simp) ?_; (case hd => rfl); (case hg => rfl); (case hr => first | (go_simp; done) | (go_simp; rfl)); (case hp => exact (Reps.one (show Kd.M Kd.string _ _ _ x0_8 [.string x0_8] from rfl) (Reps.one (show Kd.M Kd.string _ _ _ x7_13 [.string x7_13] from rfl) (Reps.none _ _)))); intro v185 w27 ho28 hb hg_ hnew_; clear hg_ hnew_; (first | rw [← Ny184.out] at ho28 | (simp only [Int.reduceToNat] at ho28; rw [← Ny184.out] at ho28)); have n0_ := Aside0.mk (Kd.R_lower ho28 (below_size (by repeat (first | (with_reducible first | exact HB.out | apply below_alloc | apply pw_below_drewN | apply below_drew1) | exact HB.out)))); have n1_ := Aside0.mk (below_step (by repeat (first | (with_reducible first | exact HB.out | apply below_alloc | apply pw_below_drewN | apply below_drew1) | exact HB.out)) hb); clear HB; have HO186 := n0_; have HB := n1_; clear n0_ n1_; clear hb ho28; obtain ⟨Ao29, co29, eo29⟩ := Kd.R_slice HO186.out; subst eo29) | ((with_reducible refine gate_callee (f := 14) rfl ?_); refine goesL_ (some 33) rfl rfl Try.func14 (by kernel_rfl) rfl #[.slice Ao29 y184.length co29] rfl (by (try simp only [List.map_toArray, List.map_cons, List.map_nil]); first | done | rfl | (simp only [List.length_drop, List.length_take]; rfl)) ?_; (with_reducible refine (csum_Right.calls kj13 _ _ y184 true _ ?side1 ?side2 A23.out).mono ?_); (case side1 => repeat (first | exact (Kd.R_reads' HO186.out).2.2 | (with_reducible refine Kd.C_alloc ?_ _) | (with_reducible refine Kd.C_drewN ?_ _) | (with_reducible refine Kd.C_drew ?_))); (case side2 => exact (Kd.R_reads' HO186.out).2.1); rintro e w30 ⟨rfl, hb⟩; refine ⟨_, rfl, ?_⟩; have n0_ := Aside0.mk (Kd.R_below (by (with_reducible repeat (first | apply Kd.R_alloc | apply Kd.R_drewN | apply Kd.R_drew)); exact HO186.out) hb); have n1_ := Aside0.mk (below_step (by repeat (first | (with_reducible first | exact HB.out | apply below_alloc | apply pw_below_drewN | apply below_drew1) | exact HB.out)) hb); clear HO186; clear HB; have HO186 := n0_; have HB := n1_; clear n0_ n1_; (try clear hb); (try clear hb2); (try clear hk); (try clear hi)) | ((with_reducible refine gate_dst (N := 38) rfl ?_); (try (refine gate_guard (by rfl) ?_; dsimp only)); refine Kd.R_lit Kd.string _ 9 ?hg (N := 38) ?hd (xs := ([x7_13, x0_8] : List ByteArray)) (inner := [.string x7_13, .string x0_8]) (ok := fun _ => True) (okp := fun _ => True) ?hr ?hp (fun _ hk => hk) trivial (Below.refl _ _) (Nat.le_refl _) (by simp) ?_; (case hd => rfl); (case hg => rfl); (case hr => first | (go_simp; done) | (go_simp; rfl)); (case hp => exact (Reps.one (show Kd.M Kd.string _ _ _ x7_13 [.string x7_13] from rfl) (Reps.one (show Kd.M Kd.string _ _ _ x0_8 [.string x0_8] from rfl) (Reps.none _ _)))); intro v189 w31 ho32 hb hg_ hnew_; clear hg_ hnew_; (first | rw [← Ny188.out] at ho32 | (simp only [Int.reduceToNat] at ho32; rw [← Ny188.out] at ho32)); have n0_ := Aside0.mk (Kd.R_elder' (by (with_reducible repeat (first | apply Kd.R_alloc | apply Kd.R_drewN | apply Kd.R_drew)); exact HO186.out) (Kd.R_base ho32) hb); have n1_ := Aside0.mk (Kd.R_lower (Kd.R_new' ho32 (Kd.R_lt (by (with_reducible repeat (first | apply Kd.R_alloc | apply Kd.R_drewN | apply Kd.R_drew)); exact HO186.out))) (below_size (by repeat (first | (with_reducible first | exact HB.out | apply below_alloc | apply pw_below_drewN | apply below_drew1) | exact HB.out)))); have n2_ := Aside0.mk (below_step (by repeat (first | (with_reducible first | exact HB.out | apply below_alloc | apply pw_below_drewN | apply below_drew1) | exact HB.out)) hb); clear HO186; clear HB; have HO186 := n0_; have HO190 := n1_; have HB := n2_; clear n0_ n1_ n2_; clear hb ho32; obtain ⟨Ao33, co33, eo33⟩ := Kd.R_slice HO190.out; subst eo33) | (go_at_call 14; (with_reducible refine (csum_Right.calls kj13 _ _ y188 true _ ?side1 ?side2 A25.out).mono ?_); (case side1 => repeat (first | exact (Kd.R_reads' HO190.out).2.2 | (with_reducible refine Kd.C_alloc ?_ _) | (with_reducible refine Kd.C_drewN ?_ _) | (with_reducible refine Kd.C_drew ?_))); (case side2 => exact (Kd.R_reads' HO190.out).2.1); rintro e w34 ⟨rfl, hb⟩; have n0_ := Aside0.mk (Kd.R_below (by (with_reducible repeat (first | apply Kd.R_alloc | apply Kd.R_drewN | apply Kd.R_drew)); exact HO186.out) hb); have n1_ := Aside0.mk (Kd.R_below (by (with_reducible repeat (first | apply Kd.R_alloc | apply Kd.R_drewN | apply Kd.R_drew)); exact HO190.out) hb); have n2_ := Aside0.mk (below_step (by repeat (first | (with_reducible first | exact HB.out | apply below_alloc | apply pw_below_drewN | apply below_drew1) | exact HB.out)) hb); clear HO186; clear HO190; clear HB; have HO186 := n0_; have HO190 := n1_; have HB := n2_; clear n0_ n1_ n2_; (try clear hb); (try clear hb2); (try clear hk); (try clear hi)))
                        go_meet
                        case rel => exact ⟨_, (((x0_8.size : Int) == 0)), (by first | rfl | (simp; done) | (simp [*]; done)), H', ⟨by have := HJ3.out; have := HJ7.out; have := HJ8.out; have := HJ13.out; first | omega | exact Nat.le_refl _⟩, ⟨by repeat (first | (with_reducible first | exact HB.out | apply below_alloc | apply pw_below_drewN | apply below_drew1) | exact HB.out)⟩⟩
                      · replace c26 := Bool.eq_false_iff.mpr c26
                        subst c26
                        have H1 : (gangwaylaw03_CsumSeals.j4 kj13 x0_8 a1 a2 x7_13 true) = some r := by rw [if_neg (show ¬ (false = true) by decide)] at H; exact H
                        clear H
                        have H := H1
                        clear H1
                        have H' := Aside0.mk H
                        clear H
                        go_wp2_with (first | ((with_reducible refine gate_dst (N := 32) rfl ?_); (try (refine gate_guard (by rfl) ?_; dsimp only)); refine Kd.R_lit Kd.string _ 9 ?hg (N := 32) ?hd (xs := ([x0_8, x7_13] : List ByteArray)) (inner := [.string x0_8, .string x7_13]) (ok := fun _ => True) (okp := fun _ => True) ?hr ?hp (fun _ hk => hk) trivial (Below.refl _ _) (Nat.le_refl _) (by simp) ?_; (case hd => rfl); (case hg => rfl); (case hr => first | (go_simp; done) | (go_simp; rfl)); (case hp => exact (Reps.one (show Kd.M Kd.string _ _ _ x0_8 [.string x0_8] from rfl) (Reps.one (show Kd.M Kd.string _ _ _ x7_13 [.string x7_13] from rfl) (Reps.none _ _)))); intro v185 w35 ho36 hb hg_ hnew_; clear hg_ hnew_; (first | rw [← Ny184.out] at ho36 | (simp only [Int.reduceToNat] at ho36; rw [← Ny184.out] at ho36)); have n0_ := Aside0.mk (Kd.R_lower ho36 (below_size (by repeat (first | (with_reducible first | exact HB.out | apply below_alloc | apply pw_below_drewN | apply below_drew1) | exact HB.out)))); have n1_ := Aside0.mk (below_step (by repeat (first | (with_reducible first | exact HB.out | apply below_alloc | apply pw_below_drewN | apply below_drew1) | exact HB.out)) hb); clear HB; have HO186 := n0_; have HB := n1_; clear n0_ n1_; clear hb ho36; obtain ⟨Ao37, co37, eo37⟩ := Kd.R_slice HO186.out; subst eo37) | ((with_reducible refine gate_callee (f := 14) rfl ?_); refine goesL_ (some 33) rfl rfl Try.func14 (by kernel_rfl) rfl #[.slice Ao37 y184.length co37] rfl (by (try simp only [List.map_toArray, List.map_cons, List.map_nil]); first | done | rfl | (simp only [List.length_drop, List.length_take]; rfl)) ?_; (with_reducible refine (csum_Right.calls kj13 _ _ y184 true _ ?side1 ?side2 A23.out).mono ?_); (case side1 => repeat (first | exact (Kd.R_reads' HO186.out).2.2 | (with_reducible refine Kd.C_alloc ?_ _) | (with_reducible refine Kd.C_drewN ?_ _) | (with_reducible refine Kd.C_drew ?_))); (case side2 => exact (Kd.R_reads' HO186.out).2.1); rintro e w38 ⟨rfl, hb⟩; refine ⟨_, rfl, ?_⟩; have n0_ := Aside0.mk (Kd.R_below (by (with_reducible repeat (first | apply Kd.R_alloc | apply Kd.R_drewN | apply Kd.R_drew)); exact HO186.out) hb); have n1_ := Aside0.mk (below_step (by repeat (first | (with_reducible first | exact HB.out | apply below_alloc | apply pw_below_drewN | apply below_drew1) | exact HB.out)) hb); clear HO186; clear HB; have HO186 := n0_; have HB := n1_; clear n0_ n1_; (try clear hb); (try clear hb2); (try clear hk); (try clear hi)) | ((with_reducible refine gate_dst (N := 38) rfl ?_); (try (refine gate_guard (by rfl) ?_; dsimp only)); refine Kd.R_lit Kd.string _ 9 ?hg (N := 38) ?hd (xs := ([x7_13, x0_8] : List ByteArray)) (inner := [.string x7_13, .string x0_8]) (ok := fun _ => True) (okp := fun _ => True) ?hr ?hp (fun _ hk => hk) trivial (Below.refl _ _) (Nat.le_refl _) (by simp) ?_; (case hd => rfl); (case hg => rfl); (case hr => first | (go_simp; done) | (go_simp; rfl)); (case hp => exact (Reps.one (show Kd.M Kd.string _ _ _ x7_13 [.string x7_13] from rfl) (Reps.one (show Kd.M Kd.string _ _ _ x0_8 [.string x0_8] from rfl) (Reps.none _ _)))); intro v189 w39 ho40 hb hg_ hnew_; clear hg_ hnew_; (first | rw [← Ny188.out] at ho40 | (simp only [Int.reduceToNat] at ho40; rw [← Ny188.out] at ho40)); have n0_ := Aside0.mk (Kd.R_elder' (by (with_reducible repeat (first | apply Kd.R_alloc | apply Kd.R_drewN | apply Kd.R_drew)); exact HO186.out) (Kd.R_base ho40) hb); have n1_ := Aside0.mk (Kd.R_lower (Kd.R_new' ho40 (Kd.R_lt (by (with_reducible repeat (first | apply Kd.R_alloc | apply Kd.R_drewN | apply Kd.R_drew)); exact HO186.out))) (below_size (by repeat (first | (with_reducible first | exact HB.out | apply below_alloc | apply pw_below_drewN | apply below_drew1) | exact HB.out)))); have n2_ := Aside0.mk (below_step (by repeat (first | (with_reducible first | exact HB.out | apply below_alloc | apply pw_below_drewN | apply below_drew1) | exact HB.out)) hb); clear HO186; clear HB; have HO186 := n0_; have HO190 := n1_; have HB := n2_; clear n0_ n1_ n2_; clear hb ho40; obtain ⟨Ao41, co41, eo41⟩ := Kd.R_slice HO190.out; subst eo41) | (go_at_call 14; (with_reducible refine (csum_Right.calls kj13 _ _ y188 false _ ?side1 ?side2 A25.out).mono ?_); (case side1 => repeat (first | exact (Kd.R_reads' HO190.out).2.2 | (with_reducible refine Kd.C_alloc ?_ _) | (with_reducible refine Kd.C_drewN ?_ _) | (with_reducible refine Kd.C_drew ?_))); (case side2 => exact (Kd.R_reads' HO190.out).2.1); rintro e w42 ⟨rfl, hb⟩; have n0_ := Aside0.mk (Kd.R_below (by (with_reducible repeat (first | apply Kd.R_alloc | apply Kd.R_drewN | apply Kd.R_drew)); exact HO186.out) hb); have n1_ := Aside0.mk (Kd.R_below (by (with_reducible repeat (first | apply Kd.R_alloc | apply Kd.R_drewN | apply Kd.R_drew)); exact HO190.out) hb); have n2_ := Aside0.mk (below_step (by repeat (first | (with_reducible first | exact HB.out | apply below_alloc | apply pw_below_drewN | apply below_drew1) | exact HB.out)) hb); clear HO186; clear HO190; clear HB; have HO186 := n0_; have HO190 := n1_; have HB := n2_; clear n0_ n1_ n2_; (try clear hb); (try clear hb2); (try clear hk); (try clear hi)))
                        go_meet
                        case rel => exact ⟨_, (true), (by first | rfl | (simp; done) | (simp [*]; done)), H', ⟨by have := HJ3.out; have := HJ7.out; have := HJ8.out; have := HJ13.out; first | omega | exact Nat.le_refl _⟩, ⟨by repeat (first | (with_reducible first | exact HB.out | apply below_alloc | apply pw_below_drewN | apply below_drew1) | exact HB.out)⟩⟩
                    · replace c24 := Bool.eq_false_iff.mpr c24
                      subst c24
                      have H1 : (gangwaylaw03_CsumSeals.j4 kj13 x0_8 a1 a2 x7_13 true) = some r := by rw [if_neg (show ¬ (false = true) by decide)] at H; exact H
                      clear H
                      have H := H1
                      clear H1
                      have H' := Aside0.mk H
                      clear H
                      go_wp2_with (first | ((with_reducible refine gate_dst (N := 32) rfl ?_); (try (refine gate_guard (by rfl) ?_; dsimp only)); refine Kd.R_lit Kd.string _ 9 ?hg (N := 32) ?hd (xs := ([x0_8, x7_13] : List ByteArray)) (inner := [.string x0_8, .string x7_13]) (ok := fun _ => True) (okp := fun _ => True) ?hr ?hp (fun _ hk => hk) trivial (Below.refl _ _) (Nat.le_refl _) (by simp) ?_; (case hd => rfl); (case hg => rfl); (case hr => first | (go_simp; done) | (go_simp; rfl)); (case hp => exact (Reps.one (show Kd.M Kd.string _ _ _ x0_8 [.string x0_8] from rfl) (Reps.one (show Kd.M Kd.string _ _ _ x7_13 [.string x7_13] from rfl) (Reps.none _ _)))); intro v185 w43 ho44 hb hg_ hnew_; clear hg_ hnew_; (first | rw [← Ny184.out] at ho44 | (simp only [Int.reduceToNat] at ho44; rw [← Ny184.out] at ho44)); have n0_ := Aside0.mk (Kd.R_lower ho44 (below_size (by repeat (first | (with_reducible first | exact HB.out | apply below_alloc | apply pw_below_drewN | apply below_drew1) | exact HB.out)))); have n1_ := Aside0.mk (below_step (by repeat (first | (with_reducible first | exact HB.out | apply below_alloc | apply pw_below_drewN | apply below_drew1) | exact HB.out)) hb); clear HB; have HO186 := n0_; have HB := n1_; clear n0_ n1_; clear hb ho44; obtain ⟨Ao45, co45, eo45⟩ := Kd.R_slice HO186.out; subst eo45) | ((with_reducible refine gate_callee (f := 14) rfl ?_); refine goesL_ (some 33) rfl rfl Try.func14 (by kernel_rfl) rfl #[.slice Ao45 y184.length co45] rfl (by (try simp only [List.map_toArray, List.map_cons, List.map_nil]); first | done | rfl | (simp only [List.length_drop, List.length_take]; rfl)) ?_; (with_reducible refine (csum_Right.calls kj13 _ _ y184 false _ ?side1 ?side2 A23.out).mono ?_); (case side1 => repeat (first | exact (Kd.R_reads' HO186.out).2.2 | (with_reducible refine Kd.C_alloc ?_ _) | (with_reducible refine Kd.C_drewN ?_ _) | (with_reducible refine Kd.C_drew ?_))); (case side2 => exact (Kd.R_reads' HO186.out).2.1); rintro e w46 ⟨rfl, hb⟩; refine ⟨_, rfl, ?_⟩; have n0_ := Aside0.mk (Kd.R_below (by (with_reducible repeat (first | apply Kd.R_alloc | apply Kd.R_drewN | apply Kd.R_drew)); exact HO186.out) hb); have n1_ := Aside0.mk (below_step (by repeat (first | (with_reducible first | exact HB.out | apply below_alloc | apply pw_below_drewN | apply below_drew1) | exact HB.out)) hb); clear HO186; clear HB; have HO186 := n0_; have HB := n1_; clear n0_ n1_; (try clear hb); (try clear hb2); (try clear hk); (try clear hi)))
                      go_meet
                      case rel => exact ⟨_, (true), (by first | rfl | (simp; done) | (simp [*]; done)), H', ⟨by have := HJ3.out; have := HJ7.out; have := HJ8.out; have := HJ13.out; first | omega | exact Nat.le_refl _⟩, ⟨by repeat (first | (with_reducible first | exact HB.out | apply below_alloc | apply pw_below_drewN | apply below_drew1) | exact HB.out)⟩⟩
                  case rest =>
                    clear HC22
                    try clear c1
                    try clear c2
                    try clear p2
                    try clear c5
                    try clear c6
                    try clear c6b0
                    try clear c6b1
                    try clear p6
                    try clear c7
                    try clear c7b0
                    try clear c7b1
                    try clear c10
                    try clear c12
                    try clear c12b0
                    try clear c12b1
                    try clear c13
                    try clear c13b0
                    try clear c13b1
                    try clear c14
                    try clear c19
                    try clear c24
                    try clear c26
                    try clear p2
                    try clear p6
                    obtain ⟨kq, x46_21, rfl, HA, HJ21, HB⟩ := hcut
                    cases kq with
                    | zero => exact absurd HA.out (by simp [gangwaylaw03_CsumSeals.j4])
                    | succ kj21 =>
                      have H := HA.out
                      clear HA
                      simp only [gangwaylaw03_CsumSeals.j4] at H
                      by_cases c47 : x46_21 = true
                      · subst c47
                        have H1 : (if (x0_8.size : Int) = 0 then ((csum_Right.f kj21 (([x0_8, x7_13] : List ByteArray))).bind fun t195 => (if t195 = true then ((gangwaylaw03_fixed.f kj21).bind fun t196 => (some t196)) else (some false))) else (some false)) = some r := by rw [if_pos rfl] at H; exact H
                        clear H
                        have H := H1
                        clear H1
                        by_cases c48 : (x0_8.size : Int) = 0
                        · rw [if_pos c48] at H
                          have c48b0 : ((x0_8.size : Int) == 0) = true := beq_iff_eq.mpr c48
                          have c48b1 : ((x0_8.size : Int) != 0) = false := bne_eq_false_iff_eq.mpr c48
                          clear c48
                          obtain ⟨y192, hy192⟩ : ∃ y_ : List ByteArray, y_ = (([x0_8, x7_13] : List ByteArray)) := ⟨_, rfl⟩
                          replace H : ((csum_Right.f kj21 y192).bind fun t195 => (if t195 = true then ((gangwaylaw03_fixed.f kj21).bind fun t196 => (some t196)) else (some false))) = some r := by first | (rw [hy192]; with_reducible exact H) | (have H2_ := (Option.bind_some _ _).symm.trans H; rw [hy192]; with_reducible exact H2_) | (have H2_ := (Option.bind_some _ _).symm.trans H; with_reducible exact H2_) | with_reducible exact H | (rw [hy192]; exact H) | exact H
                          have Ny192 := Aside0.mk hy192
                          clear hy192
                          replace H := Option.bind_eq_some_iff.mp H
                          obtain ⟨t195, A490, H⟩ := H
                          replace H : (if t195 = true then ((gangwaylaw03_fixed.f kj21).bind fun t196 => (some t196)) else (some false)) = some r := H
                          have A49 := Aside0.mk A490
                          clear A490
                          by_cases c50 : t195 = true
                          · subst c50
                            have H1 : ((gangwaylaw03_fixed.f kj21).bind fun t196 => (some t196)) = some r := by rw [if_pos rfl] at H; exact H
                            clear H
                            have H := H1
                            clear H1
                            replace H := Option.bind_eq_some_iff.mp H
                            obtain ⟨t196, A510, H⟩ := H
                            replace H : (some t196) = some r := H
                            have A51 := Aside0.mk A510
                            clear A510
                            obtain rfl := Option.some.inj H
                            go_wp2_with (first | ((with_reducible refine gate_dst (N := 53) rfl ?_); (try (refine gate_guard (by rfl) ?_; dsimp only)); refine Kd.R_lit Kd.string _ 9 ?hg (N := 53) ?hd (xs := ([x0_8, x7_13] : List ByteArray)) (inner := [.string x0_8, .string x7_13]) (ok := fun _ => True) (okp := fun _ => True) ?hr ?hp (fun _ hk => hk) trivial (Below.refl _ _) (Nat.le_refl _) (by simp) ?_; (case hd => rfl); (case hg => rfl); (case hr => first | (go_simp; done) | (go_simp; rfl)); (case hp => exact (Reps.one (show Kd.M Kd.string _ _ _ x0_8 [.string x0_8] from rfl) (Reps.one (show Kd.M Kd.string _ _ _ x7_13 [.string x7_13] from rfl) (Reps.none _ _)))); intro v193 w52 ho53 hb hg_ hnew_; clear hg_ hnew_; (first | rw [← Ny192.out] at ho53 | (simp only [Int.reduceToNat] at ho53; rw [← Ny192.out] at ho53)); have n0_ := Aside0.mk (Kd.R_lower ho53 (below_size (by repeat (first | (with_reducible first | exact HB.out | apply below_alloc | apply pw_below_drewN | apply below_drew1) | exact HB.out)))); have n1_ := Aside0.mk (below_step (by repeat (first | (with_reducible first | exact HB.out | apply below_alloc | apply pw_below_drewN | apply below_drew1) | exact HB.out)) hb); clear HB; have HO194 := n0_; have HB := n1_; clear n0_ n1_; clear hb ho53; obtain ⟨Ao54, co54, eo54⟩ := Kd.R_slice HO194.out; subst eo54) | (go_at_call 14; (with_reducible refine (csum_Right.calls kj21 _ _ y192 true _ ?side1 ?side2 A49.out).mono ?_); (case side1 => repeat (first | exact (Kd.R_reads' HO194.out).2.2 | (with_reducible refine Kd.C_alloc ?_ _) | (with_reducible refine Kd.C_drewN ?_ _) | (with_reducible refine Kd.C_drew ?_))); (case side2 => exact (Kd.R_reads' HO194.out).2.1); rintro e w55 ⟨rfl, hb⟩; have n0_ := Aside0.mk (Kd.R_below (by (with_reducible repeat (first | apply Kd.R_alloc | apply Kd.R_drewN | apply Kd.R_drew)); exact HO194.out) hb); have n1_ := Aside0.mk (below_step (by repeat (first | (with_reducible first | exact HB.out | apply below_alloc | apply pw_below_drewN | apply below_drew1) | exact HB.out)) hb); clear HO194; clear HB; have HO194 := n0_; have HB := n1_; clear n0_ n1_; (try clear hb); (try clear hb2); (try clear hk); (try clear hi)) | (go_at_call 11; (with_reducible refine (gangwaylaw03_fixed.calls kj21  t196 _ A51.out).mono ?_); rintro e w56 ⟨rfl, hb⟩; have n0_ := Aside0.mk (Kd.R_below (by (with_reducible repeat (first | apply Kd.R_alloc | apply Kd.R_drewN | apply Kd.R_drew)); exact HO194.out) hb); have n1_ := Aside0.mk (below_step (by repeat (first | (with_reducible first | exact HB.out | apply below_alloc | apply pw_below_drewN | apply below_drew1) | exact HB.out)) hb); clear HO194; clear HB; have HO194 := n0_; have HB := n1_; clear n0_ n1_; (try clear hb); (try clear hb2); (try clear hk); (try clear hi)))
                            go_ret
                            exact ⟨by first | rfl | (simp [errW_none, errW_some] <;> rfl) | (simp [*, errW_none, errW_some] <;> rfl), by repeat (first | (with_reducible first | exact HB.out | apply below_alloc | apply pw_below_drewN | apply below_drew1) | exact HB.out)⟩
                          · replace c50 := Bool.eq_false_iff.mpr c50
                            subst c50
                            have H1 : (some false) = some r := by rw [if_neg (show ¬ (false = true) by decide)] at H; exact H
                            clear H
                            have H := H1
                            clear H1
                            obtain rfl := Option.some.inj H
                            go_wp2_with (first | ((with_reducible refine gate_dst (N := 53) rfl ?_); (try (refine gate_guard (by rfl) ?_; dsimp only)); refine Kd.R_lit Kd.string _ 9 ?hg (N := 53) ?hd (xs := ([x0_8, x7_13] : List ByteArray)) (inner := [.string x0_8, .string x7_13]) (ok := fun _ => True) (okp := fun _ => True) ?hr ?hp (fun _ hk => hk) trivial (Below.refl _ _) (Nat.le_refl _) (by simp) ?_; (case hd => rfl); (case hg => rfl); (case hr => first | (go_simp; done) | (go_simp; rfl)); (case hp => exact (Reps.one (show Kd.M Kd.string _ _ _ x0_8 [.string x0_8] from rfl) (Reps.one (show Kd.M Kd.string _ _ _ x7_13 [.string x7_13] from rfl) (Reps.none _ _)))); intro v193 w57 ho58 hb hg_ hnew_; clear hg_ hnew_; (first | rw [← Ny192.out] at ho58 | (simp only [Int.reduceToNat] at ho58; rw [← Ny192.out] at ho58)); have n0_ := Aside0.mk (Kd.R_lower ho58 (below_size (by repeat (first | (with_reducible first | exact HB.out | apply below_alloc | apply pw_below_drewN | apply below_drew1) | exact HB.out)))); have n1_ := Aside0.mk (below_step (by repeat (first | (with_reducible first | exact HB.out | apply below_alloc | apply pw_below_drewN | apply below_drew1) | exact HB.out)) hb); clear HB; have HO194 := n0_; have HB := n1_; clear n0_ n1_; clear hb ho58; obtain ⟨Ao59, co59, eo59⟩ := Kd.R_slice HO194.out; subst eo59) | (go_at_call 14; (with_reducible refine (csum_Right.calls kj21 _ _ y192 false _ ?side1 ?side2 A49.out).mono ?_); (case side1 => repeat (first | exact (Kd.R_reads' HO194.out).2.2 | (with_reducible refine Kd.C_alloc ?_ _) | (with_reducible refine Kd.C_drewN ?_ _) | (with_reducible refine Kd.C_drew ?_))); (case side2 => exact (Kd.R_reads' HO194.out).2.1); rintro e w60 ⟨rfl, hb⟩; have n0_ := Aside0.mk (Kd.R_below (by (with_reducible repeat (first | apply Kd.R_alloc | apply Kd.R_drewN | apply Kd.R_drew)); exact HO194.out) hb); have n1_ := Aside0.mk (below_step (by repeat (first | (with_reducible first | exact HB.out | apply below_alloc | apply pw_below_drewN | apply below_drew1) | exact HB.out)) hb); clear HO194; clear HB; have HO194 := n0_; have HB := n1_; clear n0_ n1_; (try clear hb); (try clear hb2); (try clear hk); (try clear hi)))
                            go_ret
                            exact ⟨by first | rfl | (simp [errW_none, errW_some] <;> rfl) | (simp [*, errW_none, errW_some] <;> rfl), by repeat (first | (with_reducible first | exact HB.out | apply below_alloc | apply pw_below_drewN | apply below_drew1) | exact HB.out)⟩
                        · rw [if_neg c48] at H
                          have c48b0 : ((x0_8.size : Int) == 0) = false := beq_eq_false_iff_ne.mpr c48
                          have c48b1 : ((x0_8.size : Int) != 0) = true := bne_iff_ne.mpr c48
                          obtain rfl := Option.some.inj H
                          go_wp2
                          go_ret
                          exact ⟨by first | rfl | (simp [errW_none, errW_some] <;> rfl) | (simp [*, errW_none, errW_some] <;> rfl), by repeat (first | (with_reducible first | exact HB.out | apply below_alloc | apply pw_below_drewN | apply below_drew1) | exact HB.out)⟩
                      · replace c47 := Bool.eq_false_iff.mpr c47
                        subst c47
                        have H1 : (if (x0_8.size : Int) = 0 then (none) else (gangwaylaw03_CsumSeals.j5 kj21 x0_8 a2 x7_13 (Int.tmod (Go.bits .and .i64 a1 65535) (x0_8.size : Int)))) = some r := by rw [if_neg (show ¬ (false = true) by decide)] at H; exact H
                        clear H
                        have H := H1
                        clear H1
                        have HC61 := Aside0.mk H
                        clear H
                        go_upto_region 7 with (fail)
                        go_cut [8] (fun v8 wc => ∃ (kq : Nat) (x8_60 : Int), v8 = .int .i64 x8_60 ∧ Aside0 (gangwaylaw03_CsumSeals.j5 kq x0_8 a2 x7_13 x8_60 = some r) ∧ Aside0 (kq ≤ kj21) ∧ Aside0 (Below w.heap.size w wc))
                        case first =>
                          have H := HC61.out
                          clear HC61
                          by_cases c62 : (x0_8.size : Int) = 0
                          · rw [if_pos c62] at H
                            exact absurd H (by simp)
                          · rw [if_neg c62] at H
                            have c62b0 : ((x0_8.size : Int) == 0) = false := beq_eq_false_iff_ne.mpr c62
                            have c62b1 : ((x0_8.size : Int) != 0) = true := bne_iff_ne.mpr c62
                            (first | rw [c62b0] | (simp only [i64_w, i32_w]; rw [c62b0]) | skip)
                            have H' := Aside0.mk H
                            clear H
                            go_wp2
                            go_meet
                            case rel => exact ⟨_, (Int.tmod (Go.bits .and .i64 a1 65535) (x0_8.size : Int)), (by first | rfl | (simp; done) | (simp [*]; done)), H', ⟨by have := HJ3.out; have := HJ7.out; have := HJ8.out; have := HJ13.out; have := HJ21.out; first | omega | exact Nat.le_refl _⟩, ⟨by repeat (first | (with_reducible first | exact HB.out | apply below_alloc | apply pw_below_drewN | apply below_drew1) | exact HB.out)⟩⟩
                        case rest =>
                          clear HC61
                          try clear c1
                          try clear c2
                          try clear p2
                          try clear c4
                          try clear c5
                          try clear c6
                          try clear c6b0
                          try clear c6b1
                          try clear p6
                          try clear c7
                          try clear c7b0
                          try clear c7b1
                          try clear c10
                          try clear c12
                          try clear c12b0
                          try clear c12b1
                          try clear c13
                          try clear c13b0
                          try clear c13b1
                          try clear c14
                          try clear c19
                          try clear c24
                          try clear c26
                          try clear c47
                          try clear c48
                          try clear c48b0
                          try clear c48b1
                          try clear c50
                          try clear c62
                          try clear c62b0
                          try clear c62b1
                          try clear p2
                          try clear p6
                          obtain ⟨kq, x8_60, rfl, HA, HJ60, HB⟩ := hcut
                          cases kq with
                          | zero => exact absurd HA.out (by simp [gangwaylaw03_CsumSeals.j5])
                          | succ kj60 =>
                            have H := HA.out
                            clear HA
                            simp only [gangwaylaw03_CsumSeals.j5] at H
                            by_cases c63 : 0 ≤ x8_60
                            · rw [if_pos c63] at H
                              have c63b0 := eq_true c63
                              have c63b1 : decide (0 ≤ x8_60) = true := decide_eq_true c63
                              clear c63
                              by_cases c64 : x8_60 ≤ (x0_8.size : Int)
                              · rw [if_pos c64] at H
                                have c64b0 := eq_true c64
                                have c64b1 : decide (x8_60 ≤ (x0_8.size : Int)) = true := decide_eq_true c64
                                clear c64
                                obtain ⟨y197, hy197⟩ : ∃ y_ : List Int, y_ = (([a2] : List Int)) := ⟨_, rfl⟩
                                replace H : (if (x0_8.extract 0 (x8_60 : Int).toNat).size + (strOfNums y197).size ≤ 9223372036854775807 then (if 0 ≤ (wrap64 (x8_60 + 1)) then (if (wrap64 (x8_60 + 1)) ≤ (x0_8.size : Int) then (if ((x0_8.extract 0 (x8_60 : Int).toNat) ++ (strOfNums y197)).size + (x0_8.extract ((wrap64 (x8_60 + 1)) : Int).toNat x0_8.size).size ≤ 9223372036854775807 then ((csum_Right.f kj60 (([((x0_8.extract 0 (x8_60 : Int).toNat) ++ (strOfNums y197)) ++ (x0_8.extract ((wrap64 (x8_60 + 1)) : Int).toNat x0_8.size), x7_13] : List ByteArray))).bind fun t203 => (if x8_60 < (x0_8.size : Int) then (if a2 = (bt x0_8 x8_60) then (if (t203 == true) = true then ((gangwaylaw03_fixed.f kj60).bind fun t204 => (some t204)) else (some false)) else ((gangwayref03_Total.f kj60 (((x0_8.extract 0 (x8_60 : Int).toNat) ++ (strOfNums y197)) ++ (x0_8.extract ((wrap64 (x8_60 + 1)) : Int).toNat x0_8.size))).bind fun t205 => ((gangwayref03_Fold.f t205).bind fun t206 => ((gangwayref03_Total.f kj60 x0_8).bind fun t207 => ((gangwayref03_Fold.f t207).bind fun t208 => (if (t203 == (t206 == t208)) = true then ((gangwaylaw03_fixed.f kj60).bind fun t209 => (some t209)) else (some false))))))) else (none))) else (none)) else (none)) else (none)) else (none)) = some r := by first | (rw [hy197]; with_reducible exact H) | (have H2_ := (Option.bind_some _ _).symm.trans H; rw [hy197]; with_reducible exact H2_) | (have H2_ := (Option.bind_some _ _).symm.trans H; with_reducible exact H2_) | with_reducible exact H | (rw [hy197]; exact H) | exact H
                                have Ny197 := Aside0.mk hy197
                                clear hy197
                                by_cases c65 : (x0_8.extract 0 (x8_60 : Int).toNat).size + (strOfNums y197).size ≤ 9223372036854775807
                                · rw [if_pos c65] at H
                                  have c65b0 := eq_true c65
                                  have c65b1 : decide ((x0_8.extract 0 (x8_60 : Int).toNat).size + (strOfNums y197).size ≤ 9223372036854775807) = true := decide_eq_true c65
                                  try have c65b2 : (9223372036854775807 < (x0_8.extract 0 (x8_60 : Int).toNat).size + (strOfNums y197).size) = False := eq_false (Nat.not_lt.2 c65)
                                  obtain ⟨ji66, hji66⟩ : ∃ j_ : Int, (wrap64 (x8_60 + 1)) = j_ := ⟨_, rfl⟩
                                  replace H : (if 0 ≤ (ji66) then (if (ji66) ≤ (x0_8.size : Int) then (if ((x0_8.extract 0 (x8_60 : Int).toNat) ++ (strOfNums y197)).size + (x0_8.extract ((ji66) : Int).toNat x0_8.size).size ≤ 9223372036854775807 then ((csum_Right.f kj60 (([((x0_8.extract 0 (x8_60 : Int).toNat) ++ (strOfNums y197)) ++ (x0_8.extract ((ji66) : Int).toNat x0_8.size), x7_13] : List ByteArray))).bind fun t203 => (if x8_60 < (x0_8.size : Int) then (if a2 = (bt x0_8 x8_60) then (if (t203 == true) = true then ((gangwaylaw03_fixed.f kj60).bind fun t204 => (some t204)) else (some false)) else ((gangwayref03_Total.f kj60 (((x0_8.extract 0 (x8_60 : Int).toNat) ++ (strOfNums y197)) ++ (x0_8.extract ((ji66) : Int).toNat x0_8.size))).bind fun t205 => ((gangwayref03_Fold.f t205).bind fun t206 => ((gangwayref03_Total.f kj60 x0_8).bind fun t207 => ((gangwayref03_Fold.f t207).bind fun t208 => (if (t203 == (t206 == t208)) = true then ((gangwaylaw03_fixed.f kj60).bind fun t209 => (some t209)) else (some false))))))) else (none))) else (none)) else (none)) else (none)) = some r := by first | (rw [hji66] at H; exact H) | (simp only [hji66] at H ⊢; exact H)
                                  have hji66w : (IntKind.i64.wrap (x8_60 + 1)) = ji66 := (i64_w _).trans hji66
                                  by_cases c67 : 0 ≤ (ji66)
                                  · rw [if_pos c67] at H
                                    have c67b0 := eq_true c67
                                    have c67b1 : decide (0 ≤ (ji66)) = true := decide_eq_true c67
                                    clear c67
                                    by_cases c68 : (ji66) ≤ (x0_8.size : Int)
                                    · rw [if_pos c68] at H
                                      have c68b0 := eq_true c68
                                      have c68b1 : decide ((ji66) ≤ (x0_8.size : Int)) = true := decide_eq_true c68
                                      clear c68
                                      by_cases c69 : ((x0_8.extract 0 (x8_60 : Int).toNat) ++ (strOfNums y197)).size + (x0_8.extract ((ji66) : Int).toNat x0_8.size).size ≤ 9223372036854775807
                                      · rw [if_pos c69] at H
                                        have c69b0 := eq_true c69
                                        have c69b1 : decide (((x0_8.extract 0 (x8_60 : Int).toNat) ++ (strOfNums y197)).size + (x0_8.extract ((ji66) : Int).toNat x0_8.size).size ≤ 9223372036854775807) = true := decide_eq_true c69
                                        have c69z := c69
                                        simp only [ByteArray.size_append] at c69z
                                        have c69z1 := eq_true c69z
                                        have c69z2 := eq_false (Nat.not_lt.2 c69z)
                                        try have c69b2 : (9223372036854775807 < ((x0_8.extract 0 (x8_60 : Int).toNat) ++ (strOfNums y197)).size + (x0_8.extract ((ji66) : Int).toNat x0_8.size).size) = False := eq_false (Nat.not_lt.2 c69)
                                        obtain ⟨y200, hy200⟩ : ∃ y_ : List ByteArray, y_ = (([((x0_8.extract 0 (x8_60 : Int).toNat) ++ (strOfNums y197)) ++ (x0_8.extract ((ji66) : Int).toNat x0_8.size), x7_13] : List ByteArray)) := ⟨_, rfl⟩
                                        replace H : ((csum_Right.f kj60 y200).bind fun t203 => (if x8_60 < (x0_8.size : Int) then (if a2 = (bt x0_8 x8_60) then (if (t203 == true) = true then ((gangwaylaw03_fixed.f kj60).bind fun t204 => (some t204)) else (some false)) else ((gangwayref03_Total.f kj60 (((x0_8.extract 0 (x8_60 : Int).toNat) ++ (strOfNums y197)) ++ (x0_8.extract ((ji66) : Int).toNat x0_8.size))).bind fun t205 => ((gangwayref03_Fold.f t205).bind fun t206 => ((gangwayref03_Total.f kj60 x0_8).bind fun t207 => ((gangwayref03_Fold.f t207).bind fun t208 => (if (t203 == (t206 == t208)) = true then ((gangwaylaw03_fixed.f kj60).bind fun t209 => (some t209)) else (some false))))))) else (none))) = some r := by first | (rw [hy200]; with_reducible exact H) | (have H2_ := (Option.bind_some _ _).symm.trans H; rw [hy200]; with_reducible exact H2_) | (have H2_ := (Option.bind_some _ _).symm.trans H; with_reducible exact H2_) | with_reducible exact H | (rw [hy200]; exact H) | exact H
                                        have Ny200 := Aside0.mk hy200
                                        clear hy200
                                        replace H := Option.bind_eq_some_iff.mp H
                                        obtain ⟨t203, A700, H⟩ := H
                                        replace H : (if x8_60 < (x0_8.size : Int) then (if a2 = (bt x0_8 x8_60) then (if (t203 == true) = true then ((gangwaylaw03_fixed.f kj60).bind fun t204 => (some t204)) else (some false)) else ((gangwayref03_Total.f kj60 (((x0_8.extract 0 (x8_60 : Int).toNat) ++ (strOfNums y197)) ++ (x0_8.extract ((ji66) : Int).toNat x0_8.size))).bind fun t205 => ((gangwayref03_Fold.f t205).bind fun t206 => ((gangwayref03_Total.f kj60 x0_8).bind fun t207 => ((gangwayref03_Fold.f t207).bind fun t208 => (if (t203 == (t206 == t208)) = true then ((gangwaylaw03_fixed.f kj60).bind fun t209 => (some t209)) else (some false))))))) else (none)) = some r := H
                                        have A70 := Aside0.mk A700
                                        clear A700
                                        by_cases c71 : x8_60 < (x0_8.size : Int)
                                        · rw [if_pos c71] at H
                                          have c71b0 : decide (x8_60 < (x0_8.size : Int)) = true := decide_eq_true c71
                                          clear c71
                                          by_cases c73 : a2 = (bt x0_8 x8_60)
                                          · rw [if_pos c73] at H
                                            have c73b0 : (a2 == (bt x0_8 x8_60)) = true := beq_iff_eq.mpr c73
                                            have c73b1 : (a2 != (bt x0_8 x8_60)) = false := bne_eq_false_iff_eq.mpr c73
                                            clear c73
                                            by_cases c74 : (t203 == true) = true
                                            · rw [if_pos c74] at H
                                              have c74b0 : (t203 == true) = true := c74
                                              (try (have c74b1 : decide (t203 = true) = true := by simpa using c74))
                                              (try (have c74b2 : (t203 == true) = true := by simpa using c74))
                                              clear c74
                                              replace H := Option.bind_eq_some_iff.mp H
                                              obtain ⟨t204, A750, H⟩ := H
                                              replace H : (some t204) = some r := H
                                              have A75 := Aside0.mk A750
                                              clear A750
                                              obtain rfl := Option.some.inj H
                                              try go_wp2
                                              have n0_ := Aside0.mk (below_drew1 HB.out)
                                              clear HB
                                              have HB := n0_
                                              clear n0_
                                              refine start_ (n := 13) (S := fun w' => True) (ds := []) #[false, false, false, false, false, false, false, false, false, false, false, false, false] (by kernel_rfl) rfl rfl trivial (fun hHeld => ?_); refine with_tabW gangwaylaw03_CsumSeals.tab8 gangwaylaw03_CsumSeals.bits8 (fun HT_ HW_ => ?_)
                                              generalize wc.drew = w76 at HB hHeld ⊢
                                              refine pure_ (i := 0) (N := some 64) (v := ?_) (a' := ?_) #[true, false, false, false, false, false, false, false, false, false, false, false, false] rfl rfl (any_of HT_.out (by kernel_rfl)) (fun _ _ _ h => h) (Or.inl ⟨by rfl, ?_⟩) ?_ ?_
                                              rotate_left
                                              · intro w'
                                                go_simp
                                                first | with_reducible rfl | (rw [if_neg (by (try simp only [decide_eq_true_eq, ByteArray.size_append, ByteArray.size_extract, eq_iff_iff, iff_true, iff_false, Nat.not_lt] at *); omega)]; try with_reducible rfl)
                                              rotate_left
                                              · simp only [Act.put, List.setIfInBounds_toArray, List.set_cons_zero, List.set_cons_succ, i64_w, i32_w]
                                                rfl
                                              refine pure_ (i := 1) (N := some 65) (v := ?_) (a' := ?_) #[true, true, false, false, false, false, false, false, false, false, false, false, false] rfl rfl (any_of HT_.out (by kernel_rfl)) (fun _ _ _ h => h) (Or.inl ⟨by rfl, ?_⟩) ?_ ?_
                                              rotate_left
                                              · intro w'
                                                go_simp
                                                first | with_reducible rfl | (rw [if_neg (by (try simp only [decide_eq_true_eq, ByteArray.size_append, ByteArray.size_extract, eq_iff_iff, iff_true, iff_false, Nat.not_lt] at *); omega)]; try with_reducible rfl)
                                              rotate_left
                                              · simp only [Act.put, List.setIfInBounds_toArray, List.set_cons_zero, List.set_cons_succ, i64_w, i32_w]
                                                rfl
                                              refine pure_ (i := 2) (N := some 66) (v := ?_) (a' := ?_) #[true, true, true, false, false, false, false, false, false, false, false, false, false] rfl rfl (any_of HT_.out (by kernel_rfl)) (fun _ _ _ h => h) (Or.inl ⟨by rfl, ?_⟩) ?_ ?_
                                              rotate_left
                                              · intro w'
                                                go_simp
                                                first | with_reducible rfl | (rw [if_neg (by (try simp only [decide_eq_true_eq, ByteArray.size_append, ByteArray.size_extract, eq_iff_iff, iff_true, iff_false, Nat.not_lt] at *); omega)]; try with_reducible rfl)
                                              rotate_left
                                              · simp only [Act.put, List.setIfInBounds_toArray, List.set_cons_zero, List.set_cons_succ, i64_w, i32_w]
                                                rfl
                                              refine pure_ (i := 3) (N := some 67) (v := ?_) (a' := ?_) #[true, true, true, true, false, false, false, false, false, false, false, false, false] rfl rfl (any_of HT_.out (by kernel_rfl)) (fun _ _ _ h => h) (Or.inl ⟨by rfl, ?_⟩) ?_ ?_
                                              rotate_left
                                              · intro w'
                                                go_simp
                                                first | with_reducible rfl | (rw [if_neg (by (try simp only [decide_eq_true_eq, ByteArray.size_append, ByteArray.size_extract, eq_iff_iff, iff_true, iff_false, Nat.not_lt] at *); omega)]; try with_reducible rfl)
                                              rotate_left
                                              · simp only [Act.put, List.setIfInBounds_toArray, List.set_cons_zero, List.set_cons_succ, i64_w, i32_w]
                                                rfl
                                              refine pure_ (i := 7) (N := some 71) (v := ?_) (a' := ?_) #[true, true, true, true, false, false, false, true, false, false, false, false, false] rfl rfl (any_of HT_.out (by kernel_rfl)) (fun _ _ _ h => h) (Or.inl ⟨by rfl, ?_⟩) ?_ ?_
                                              rotate_left
                                              · intro w'
                                                go_simp
                                                first | with_reducible rfl | (rw [if_neg (by (try simp only [decide_eq_true_eq, ByteArray.size_append, ByteArray.size_extract, eq_iff_iff, iff_true, iff_false, Nat.not_lt] at *); omega)]; try with_reducible rfl)
                                              rotate_left
                                              · simp only [Act.put, List.setIfInBounds_toArray, List.set_cons_zero, List.set_cons_succ, i64_w, i32_w]
                                                rfl
                                              refine pure_ (i := 8) (N := some 72) (v := ?_) (a' := ?_) #[true, true, true, true, false, false, false, true, true, false, false, false, false] rfl rfl (any_of HT_.out (by kernel_rfl)) (fun _ _ _ h => h) (Or.inl ⟨by rfl, ?_⟩) ?_ ?_
                                              rotate_left
                                              · intro w'
                                                go_simp
                                                first | with_reducible rfl | (rw [if_neg (by (try simp only [decide_eq_true_eq, ByteArray.size_append, ByteArray.size_extract, eq_iff_iff, iff_true, iff_false, Nat.not_lt] at *); omega)]; try with_reducible rfl)
                                              rotate_left
                                              · simp only [Act.put, List.setIfInBounds_toArray, List.set_cons_zero, List.set_cons_succ, i64_w, i32_w]
                                                rfl
                                              refine pure_ (i := 9) (N := some 73) (v := ?_) (a' := ?_) #[true, true, true, true, false, false, false, true, true, true, false, false, false] rfl rfl (any_of HT_.out (by kernel_rfl)) (fun _ _ _ h => h) (Or.inl ⟨by rfl, ?_⟩) ?_ ?_
                                              rotate_left
                                              · intro w'
                                                go_simp
                                                first | with_reducible rfl | (rw [if_neg (by (try simp only [decide_eq_true_eq, ByteArray.size_append, ByteArray.size_extract, eq_iff_iff, iff_true, iff_false, Nat.not_lt] at *); omega)]; try with_reducible rfl)
                                              rotate_left
                                              · simp only [Act.put, List.setIfInBounds_toArray, List.set_cons_zero, List.set_cons_succ, i64_w, i32_w]
                                                rfl
                                              refine pure_ (i := 10) (N := some 74) (v := ?_) (a' := ?_) #[true, true, true, true, false, false, false, true, true, true, true, false, false] rfl rfl (any_of HT_.out (by kernel_rfl)) (fun _ _ _ h => h) (Or.inl ⟨by rfl, ?_⟩) ?_ ?_
                                              rotate_left
                                              · intro w'
                                                go_simp
                                                first | with_reducible rfl | (rw [if_neg (by (try simp only [decide_eq_true_eq, ByteArray.size_append, ByteArray.size_extract, eq_iff_iff, iff_true, iff_false, Nat.not_lt] at *); omega)]; try with_reducible rfl)
                                              rotate_left
                                              · simp only [Act.put, List.setIfInBounds_toArray, List.set_cons_zero, List.set_cons_succ, i64_w, i32_w]
                                                rfl
                                              refine one_ (i := 4) (N := some 68) #[true, true, true, true, true, false, false, true, true, true, true, false, false] rfl rfl (one_of HT_.out (by kernel_rfl)) (by decide) (fun K hK => ?_)
                                              refine Kd.R_lit_step (Kd.int .u8) _ 5 ?hg (N := 68) ?hd (xs := ([a2] : List Int)) (inner := [.int .u8 a2]) (ok := fun _ => True) (okp := fun _ => True) ?hr ?hp (fun _ hk => hk) trivial (Below.refl _ _) (Nat.le_refl _) (by simp) ?_; (case hd => rfl); (case hg => rfl); (case hr => first | (go_simp; done) | (go_simp; rfl)); (case hp => exact (Reps.one (show Kd.M (Kd.int .u8) _ _ _ a2 [.int .u8 a2] from rfl) (Reps.none _ _)))
                                              intro v198 w77 ho78 hb hg_ hnew_
                                              clear hg_ hnew_
                                              (first | rw [← Ny197.out] at ho78 | (simp only [Int.reduceToNat] at ho78; rw [← Ny197.out] at ho78))
                                              have n0_ := Aside0.mk (Kd.R_lower ho78 (below_size (by repeat (first | (with_reducible first | exact HB.out | apply below_alloc | apply pw_below_drewN | apply below_drew1) | exact HB.out))))
                                              have n1_ := Aside0.mk (below_step (by repeat (first | (with_reducible first | exact HB.out | apply below_alloc | apply pw_below_drewN | apply below_drew1) | exact HB.out)) hb)
                                              clear HB
                                              have HO199 := n0_
                                              have HB := n1_
                                              clear n0_ n1_
                                              clear hb ho78
                                              refine hK.out _ _ trivial (fun hHeld => ?_)
                                              clear hK K
                                              refine norm_ (a' := ?_) ?_ ?_
                                              rotate_left
                                              · show Act.put _ (some 68) _ = _
                                                simp only [Act.put, List.setIfInBounds_toArray, List.set_cons_zero, List.set_cons_succ, i64_w, i32_w]
                                                rfl
                                              refine one_ (i := 5) (N := some 69) #[true, true, true, true, true, true, false, true, true, true, true, false, false] rfl rfl (one_of HT_.out (by kernel_rfl)) (by decide) (fun K hK => ?_)
                                              have hcv79 := own_string (P := Try.prog) Try.underlying36 Try.underlying5 Try.underlying9 (Kd.own_of_R HO199.out)
                                              refine value_ (w1 := ?_) (v := ?_) (by rfl) rfl ?_ ?_
                                              rotate_left 2
                                              · go_simp
                                                constructor
                                                · rfl
                                                · rfl
                                              clear hcv79
                                              refine hK.out _ _ trivial (fun hHeld => ?_)
                                              clear hK K
                                              refine norm_ (a' := ?_) ?_ ?_
                                              rotate_left
                                              · show Act.put _ (some 69) _ = _
                                                simp only [Act.put, List.setIfInBounds_toArray, List.set_cons_zero, List.set_cons_succ, i64_w, i32_w]
                                                rfl
                                              refine pure_ (i := 6) (N := some 70) (v := ?_) (a' := ?_) #[true, true, true, true, true, true, true, true, true, true, true, false, false] rfl rfl (any_of HT_.out (by kernel_rfl)) (fun _ _ _ h => h) (Or.inl ⟨by rfl, ?_⟩) ?_ ?_
                                              rotate_left
                                              · intro w'
                                                go_simp
                                                first | with_reducible rfl | (rw [if_neg (by (try simp only [decide_eq_true_eq, ByteArray.size_append, ByteArray.size_extract, eq_iff_iff, iff_true, iff_false, Nat.not_lt] at *); omega)]; try with_reducible rfl)
                                              rotate_left
                                              · simp only [Act.put, List.setIfInBounds_toArray, List.set_cons_zero, List.set_cons_succ, i64_w, i32_w]
                                                rfl
                                              refine pure_ (i := 11) (N := some 75) (v := ?_) (a' := ?_) #[true, true, true, true, true, true, true, true, true, true, true, true, false] rfl rfl (any_of HT_.out (by kernel_rfl)) (fun _ _ _ h => h) (Or.inl ⟨by rfl, ?_⟩) ?_ ?_
                                              rotate_left
                                              · intro w'
                                                go_simp
                                                first | with_reducible rfl | (rw [if_neg (by (try simp only [decide_eq_true_eq, ByteArray.size_append, ByteArray.size_extract, eq_iff_iff, iff_true, iff_false, Nat.not_lt] at *); omega)]; try with_reducible rfl)
                                              rotate_left
                                              · simp only [Act.put, List.setIfInBounds_toArray, List.set_cons_zero, List.set_cons_succ, i64_w, i32_w]
                                                rfl
                                              refine pure_ (i := 12) (N := some 9) (v := ?_) (a' := ?_) #[true, true, true, true, true, true, true, true, true, true, true, true, true] rfl rfl (any_of HT_.out (by kernel_rfl)) (fun _ _ _ h => h) (Or.inl ⟨by rfl, ?_⟩) ?_ ?_
                                              rotate_left
                                              · intro w'
                                                go_simp
                                                first | with_reducible rfl | (rw [if_neg (by (try simp only [decide_eq_true_eq, ByteArray.size_append, ByteArray.size_extract, eq_iff_iff, iff_true, iff_false, Nat.not_lt] at *); omega)]; try with_reducible rfl)
                                              rotate_left
                                              · simp only [Act.put, List.setIfInBounds_toArray, List.set_cons_zero, List.set_cons_succ, i64_w, i32_w]
                                                rfl
                                              refine done_ (done_of HT_.out (by kernel_rfl)) ?_
                                              try go_wp2
                                              have n0_ := Aside0.mk (Kd.R_drew HO199.out)
                                              have n1_ := Aside0.mk (below_drew1 HB.out)
                                              clear HO199
                                              clear HB
                                              have HO199 := n0_
                                              have HB := n1_
                                              clear n0_ n1_
                                              have p72 : 0 ≤ (x8_60 : Int) := of_decide_eq_true (by first | (with_reducible assumption) | assumption)
                                              have q72 : x8_60 < (x0_8.size : Int) := of_decide_eq_true (by first | (with_reducible assumption) | assumption)
                                              have hx72 := bt_at x0_8 x8_60
                                              replace p72 := eq_true p72
                                              replace q72 := eq_true q72
                                              refine start_ (n := 23) (S := fun w' => True) (ds := []) #[false, false, false, false, false, false, false, false, false, false, false, false, false, false, false, false, false, false, false, false, false, false, false] (by kernel_rfl) rfl rfl trivial (fun hHeld => ?_); refine with_tabW gangwaylaw03_CsumSeals.tab9 gangwaylaw03_CsumSeals.bits9 (fun HT_ HW_ => ?_)
                                              generalize w77.drew = w80 at HO199 HB hHeld ⊢
                                              refine pure_ (i := 0) (N := some 76) (v := ?_) (a' := ?_) #[true, false, false, false, false, false, false, false, false, false, false, false, false, false, false, false, false, false, false, false, false, false, false] rfl rfl (any_of HT_.out (by kernel_rfl)) (fun _ _ _ h => h) (Or.inl ⟨by rfl, ?_⟩) ?_ ?_
                                              rotate_left
                                              · intro w'
                                                go_simp
                                                first | with_reducible rfl | (rw [if_neg (by (try simp only [decide_eq_true_eq, ByteArray.size_append, ByteArray.size_extract, eq_iff_iff, iff_true, iff_false, Nat.not_lt] at *); omega)]; try with_reducible rfl)
                                              rotate_left
                                              · simp only [Act.put, List.setIfInBounds_toArray, List.set_cons_zero, List.set_cons_succ, i64_w, i32_w]
                                                rfl
                                              refine pure_ (i := 1) (N := some 77) (v := ?_) (a' := ?_) #[true, true, false, false, false, false, false, false, false, false, false, false, false, false, false, false, false, false, false, false, false, false, false] rfl rfl (any_of HT_.out (by kernel_rfl)) (fun _ _ _ h => h) (Or.inl ⟨by rfl, ?_⟩) ?_ ?_
                                              rotate_left
                                              · intro w'
                                                go_simp
                                                first | with_reducible rfl | (rw [if_neg (by (try simp only [decide_eq_true_eq, ByteArray.size_append, ByteArray.size_extract, eq_iff_iff, iff_true, iff_false, Nat.not_lt] at *); omega)]; try with_reducible rfl)
                                              rotate_left
                                              · simp only [Act.put, List.setIfInBounds_toArray, List.set_cons_zero, List.set_cons_succ, i64_w, i32_w]
                                                rfl
                                              refine pure_ (i := 4) (N := some 80) (v := ?_) (a' := ?_) #[true, true, false, false, true, false, false, false, false, false, false, false, false, false, false, false, false, false, false, false, false, false, false] rfl rfl (any_of HT_.out (by kernel_rfl)) (fun _ _ _ h => h) (Or.inl ⟨by rfl, ?_⟩) ?_ ?_
                                              rotate_left
                                              · intro w'
                                                go_simp
                                                first | with_reducible rfl | (rw [if_neg (by (try simp only [decide_eq_true_eq, ByteArray.size_append, ByteArray.size_extract, eq_iff_iff, iff_true, iff_false, Nat.not_lt] at *); omega)]; try with_reducible rfl)
                                              rotate_left
                                              · simp only [Act.put, List.setIfInBounds_toArray, List.set_cons_zero, List.set_cons_succ, i64_w, i32_w]
                                                rfl
                                              refine pure_ (i := 5) (N := some 81) (v := ?_) (a' := ?_) #[true, true, false, false, true, true, false, false, false, false, false, false, false, false, false, false, false, false, false, false, false, false, false] rfl rfl (any_of HT_.out (by kernel_rfl)) (fun _ _ _ h => h) (Or.inl ⟨by rfl, ?_⟩) ?_ ?_
                                              rotate_left
                                              · intro w'
                                                go_simp
                                                first | with_reducible rfl | (rw [if_neg (by (try simp only [decide_eq_true_eq, ByteArray.size_append, ByteArray.size_extract, eq_iff_iff, iff_true, iff_false, Nat.not_lt] at *); omega)]; try with_reducible rfl)
                                              rotate_left
                                              · simp only [Act.put, List.setIfInBounds_toArray, List.set_cons_zero, List.set_cons_succ, i64_w, i32_w]
                                                rfl
                                              refine pure_ (i := 6) (N := some 82) (v := ?_) (a' := ?_) #[true, true, false, false, true, true, true, false, false, false, false, false, false, false, false, false, false, false, false, false, false, false, false] rfl rfl (any_of HT_.out (by kernel_rfl)) (fun _ _ _ h => h) (Or.inl ⟨by rfl, ?_⟩) ?_ ?_
                                              rotate_left
                                              · intro w'
                                                go_simp
                                                first | with_reducible rfl | (rw [if_neg (by (try simp only [decide_eq_true_eq, ByteArray.size_append, ByteArray.size_extract, eq_iff_iff, iff_true, iff_false, Nat.not_lt] at *); omega)]; try with_reducible rfl)
                                              rotate_left
                                              · simp only [Act.put, List.setIfInBounds_toArray, List.set_cons_zero, List.set_cons_succ, i64_w, i32_w]
                                                rfl
                                              refine take_ (i := 7) (N := some 83) (v := ?_) (a' := ?_) #[true, true, false, false, true, true, true, true, false, false, false, false, false, false, false, false, false, false, false, false, false, false, false] rfl rfl (take_ofW HT_.out HW_.out (by kernel_rfl)) (fun _ _ _ h => h) (Or.inl ⟨by rfl, ?_⟩) hHeld ?_ ?_
                                              rotate_left
                                              · intro w' _
                                                go_simp
                                                with_reducible rfl
                                              rotate_left
                                              · simp only [Act.put, List.setIfInBounds_toArray, List.set_cons_zero, List.set_cons_succ, i64_w, i32_w]
                                                rfl
                                              refine pure_ (i := 8) (N := some 84) (v := ?_) (a' := ?_) #[true, true, false, false, true, true, true, true, true, false, false, false, false, false, false, false, false, false, false, false, false, false, false] rfl rfl (any_of HT_.out (by kernel_rfl)) (fun _ _ _ h => h) (Or.inl ⟨by rfl, ?_⟩) ?_ ?_
                                              rotate_left
                                              · intro w'
                                                go_simp
                                                first | with_reducible rfl | (rw [if_neg (by (try simp only [decide_eq_true_eq, ByteArray.size_append, ByteArray.size_extract, eq_iff_iff, iff_true, iff_false, Nat.not_lt] at *); omega)]; try with_reducible rfl)
                                              rotate_left
                                              · simp only [Act.put, List.setIfInBounds_toArray, List.set_cons_zero, List.set_cons_succ, i64_w, i32_w]
                                                rfl
                                              refine one_ (i := 2) (N := some 78) #[true, true, true, false, true, true, true, true, true, false, false, false, false, false, false, false, false, false, false, false, false, false, false] rfl rfl (one_of HT_.out (by kernel_rfl)) (by decide) (fun K hK => ?_)
                                              refine Kd.R_lit_step Kd.string _ 9 ?hg (N := 78) ?hd (xs := ([((x0_8.extract 0 (x8_60 : Int).toNat) ++ (strOfNums y197)) ++ (x0_8.extract ((ji66) : Int).toNat x0_8.size), x7_13] : List ByteArray)) (inner := [.string (((x0_8.extract 0 (x8_60 : Int).toNat) ++ (strOfNums y197)) ++ (x0_8.extract ((ji66) : Int).toNat x0_8.size)), .string x7_13]) (ok := fun _ => True) (okp := fun _ => True) ?hr ?hp (fun _ hk => hk) trivial (Below.refl _ _) (Nat.le_refl _) (by simp) ?_; (case hd => rfl); (case hg => rfl); (case hr => first | (go_simp; done) | (go_simp; rfl)); (case hp => exact (Reps.one (show Kd.M Kd.string _ _ _ (((x0_8.extract 0 (x8_60 : Int).toNat) ++ (strOfNums y197)) ++ (x0_8.extract ((ji66) : Int).toNat x0_8.size)) [.string (((x0_8.extract 0 (x8_60 : Int).toNat) ++ (strOfNums y197)) ++ (x0_8.extract ((ji66) : Int).toNat x0_8.size))] from rfl) (Reps.one (show Kd.M Kd.string _ _ _ x7_13 [.string x7_13] from rfl) (Reps.none _ _))))
                                              intro v201 w81 ho82 hb hg_ hnew_
                                              clear hg_ hnew_
                                              (first | rw [← Ny200.out] at ho82 | (simp only [Int.reduceToNat] at ho82; rw [← Ny200.out] at ho82))
                                              have n0_ := Aside0.mk (Kd.R_below (by (with_reducible repeat (first | apply Kd.R_alloc | apply Kd.R_drewN | apply Kd.R_drew)); exact HO199.out) hb)
                                              have n1_ := Aside0.mk (Kd.R_lower ho82 (below_size (by repeat (first | (with_reducible first | exact HB.out | apply below_alloc | apply pw_below_drewN | apply below_drew1) | exact HB.out))))
                                              have n2_ := Aside0.mk (below_step (by repeat (first | (with_reducible first | exact HB.out | apply below_alloc | apply pw_below_drewN | apply below_drew1) | exact HB.out)) hb)
                                              clear HO199
                                              clear HB
                                              have HO199 := n0_
                                              have HO202 := n1_
                                              have HB := n2_
                                              clear n0_ n1_ n2_
                                              clear hb ho82
                                              obtain ⟨Ao83, co83, eo83⟩ := Kd.R_slice HO202.out
                                              (first | subst eo83 | (injection eo83 with f1_ f2_ f3_; have f4_ := f1_.symm; have f5_ := f3_.symm; clear f1_ f2_ f3_; subst f4_; subst f5_))
                                              refine hK.out _ _ trivial (fun hHeld => ?_)
                                              clear hK K
                                              refine norm_ (a' := ?_) ?_ ?_
                                              rotate_left
                                              · show Act.put _ (some 78) _ = _
                                                simp only [Act.put, List.setIfInBounds_toArray, List.set_cons_zero, List.set_cons_succ, i64_w, i32_w]
                                                rfl
                                              refine one_ (i := 3) (N := some 79) #[true, true, true, true, true, true, true, true, true, false, false, false, false, false, false, false, false, false, false, false, false, false, false] rfl rfl (one_of HT_.out (by kernel_rfl)) (by decide) (fun K hK => ?_)
                                              refine goes_ Try.func14 (by kernel_rfl) rfl #[.slice Ao83 y200.length co83] (by rfl) rfl rfl (by (try simp only [List.map_toArray, List.map_cons, List.map_nil]); first | done | rfl | (simp only [List.length_drop, List.length_take]; rfl)) ?_
                                              with_reducible refine (csum_Right.calls kj60 _ _ y200 t203 _ ?side1 ?side2 A70.out).mono ?_
                                              (case side1 => repeat (first | exact (Kd.R_reads' HO202.out).2.2 | (with_reducible refine Kd.C_alloc ?_ _) | (with_reducible refine Kd.C_drewN ?_ _) | (with_reducible refine Kd.C_drew ?_)))
                                              (case side2 => exact (Kd.R_reads' HO202.out).2.1)
                                              rintro e w84 ⟨rfl, hb⟩
                                              refine ⟨_, rfl, ?_⟩
                                              have n0_ := Aside0.mk (Kd.R_below (by (with_reducible repeat (first | apply Kd.R_alloc | apply Kd.R_drewN | apply Kd.R_drew)); exact HO199.out) hb)
                                              have n1_ := Aside0.mk (Kd.R_below (by (with_reducible repeat (first | apply Kd.R_alloc | apply Kd.R_drewN | apply Kd.R_drew)); exact HO202.out) hb)
                                              have n2_ := Aside0.mk (below_step (by repeat (first | (with_reducible first | exact HB.out | apply below_alloc | apply pw_below_drewN | apply below_drew1) | exact HB.out)) hb)
                                              clear HO199
                                              clear HO202
                                              clear HB
                                              have HO199 := n0_
                                              have HO202 := n1_
                                              have HB := n2_
                                              clear n0_ n1_ n2_
                                              (try clear hb)
                                              (try clear hb2)
                                              (try clear hk)
                                              (try clear hi)
                                              refine hK.out _ _ trivial (fun hHeld => ?_)
                                              clear hK K
                                              refine norm_ (a' := ?_) ?_ ?_
                                              rotate_left
                                              · show Act.put _ (some 79) _ = _
                                                simp only [Act.put, List.setIfInBounds_toArray, List.set_cons_zero, List.set_cons_succ, i64_w, i32_w]
                                                rfl
                                              refine pure_ (i := 9) (N := some 85) (v := ?_) (a' := ?_) #[true, true, true, true, true, true, true, true, true, true, false, false, false, false, false, false, false, false, false, false, false, false, false] rfl rfl (any_of HT_.out (by kernel_rfl)) (fun _ _ _ h => h) (Or.inl ⟨by rfl, ?_⟩) ?_ ?_
                                              rotate_left
                                              · intro w'
                                                go_simp
                                                first | with_reducible rfl | (rw [if_neg (by (try simp only [decide_eq_true_eq, ByteArray.size_append, ByteArray.size_extract, eq_iff_iff, iff_true, iff_false, Nat.not_lt] at *); omega)]; try with_reducible rfl)
                                              rotate_left
                                              · simp only [Act.put, List.setIfInBounds_toArray, List.set_cons_zero, List.set_cons_succ, i64_w, i32_w]
                                                rfl
                                              refine pure_ (i := 10) (N := some 86) (v := undef) (a' := ?_) #[true, true, true, true, true, true, true, true, true, true, true, false, false, false, false, false, false, false, false, false, false, false, false] rfl rfl (any_of HT_.out (by kernel_rfl)) (fun _ _ _ h => h) (Or.inr ⟨by rfl, rfl⟩) ?_ ?_
                                              rotate_left
                                              · simp only [Act.put, List.setIfInBounds_toArray, List.set_cons_zero, List.set_cons_succ, i64_w, i32_w]
                                                rfl
                                              refine pure_ (i := 11) (N := some 87) (v := undef) (a' := ?_) #[true, true, true, true, true, true, true, true, true, true, true, true, false, false, false, false, false, false, false, false, false, false, false] rfl rfl (any_of HT_.out (by kernel_rfl)) (fun _ _ _ h => h) (Or.inr ⟨by rfl, rfl⟩) ?_ ?_
                                              rotate_left
                                              · simp only [Act.put, List.setIfInBounds_toArray, List.set_cons_zero, List.set_cons_succ, i64_w, i32_w]
                                                rfl
                                              refine pure_ (i := 12) (N := some 88) (v := undef) (a' := ?_) #[true, true, true, true, true, true, true, true, true, true, true, true, true, false, false, false, false, false, false, false, false, false, false] rfl rfl (any_of HT_.out (by kernel_rfl)) (fun _ _ _ h => h) (Or.inr ⟨by rfl, rfl⟩) ?_ ?_
                                              rotate_left
                                              · simp only [Act.put, List.setIfInBounds_toArray, List.set_cons_zero, List.set_cons_succ, i64_w, i32_w]
                                                rfl
                                              refine pure_ (i := 13) (N := some 89) (v := undef) (a' := ?_) #[true, true, true, true, true, true, true, true, true, true, true, true, true, true, false, false, false, false, false, false, false, false, false] rfl rfl (any_of HT_.out (by kernel_rfl)) (fun _ _ _ h => h) (Or.inr ⟨by rfl, rfl⟩) ?_ ?_
                                              rotate_left
                                              · simp only [Act.put, List.setIfInBounds_toArray, List.set_cons_zero, List.set_cons_succ, i64_w, i32_w]
                                                rfl
                                              refine pure_ (i := 14) (N := some 90) (v := undef) (a' := ?_) #[true, true, true, true, true, true, true, true, true, true, true, true, true, true, true, false, false, false, false, false, false, false, false] rfl rfl (any_of HT_.out (by kernel_rfl)) (fun _ _ _ h => h) (Or.inr ⟨by rfl, rfl⟩) ?_ ?_
                                              rotate_left
                                              · simp only [Act.put, List.setIfInBounds_toArray, List.set_cons_zero, List.set_cons_succ, i64_w, i32_w]
                                                rfl
                                              refine pure_ (i := 15) (N := some 91) (v := undef) (a' := ?_) #[true, true, true, true, true, true, true, true, true, true, true, true, true, true, true, true, false, false, false, false, false, false, false] rfl rfl (any_of HT_.out (by kernel_rfl)) (fun _ _ _ h => h) (Or.inr ⟨by rfl, rfl⟩) ?_ ?_
                                              rotate_left
                                              · simp only [Act.put, List.setIfInBounds_toArray, List.set_cons_zero, List.set_cons_succ, i64_w, i32_w]
                                                rfl
                                              refine pure_ (i := 16) (N := some 92) (v := undef) (a' := ?_) #[true, true, true, true, true, true, true, true, true, true, true, true, true, true, true, true, true, false, false, false, false, false, false] rfl rfl (any_of HT_.out (by kernel_rfl)) (fun _ _ _ h => h) (Or.inr ⟨by rfl, rfl⟩) ?_ ?_
                                              rotate_left
                                              · simp only [Act.put, List.setIfInBounds_toArray, List.set_cons_zero, List.set_cons_succ, i64_w, i32_w]
                                                rfl
                                              refine pure_ (i := 17) (N := some 93) (v := ?_) (a' := ?_) #[true, true, true, true, true, true, true, true, true, true, true, true, true, true, true, true, true, true, false, false, false, false, false] rfl rfl (any_of HT_.out (by kernel_rfl)) (fun _ _ _ h => h) (Or.inl ⟨by rfl, ?_⟩) ?_ ?_
                                              rotate_left
                                              · intro w'
                                                go_simp
                                                first | with_reducible rfl | (rw [if_neg (by (try simp only [decide_eq_true_eq, ByteArray.size_append, ByteArray.size_extract, eq_iff_iff, iff_true, iff_false, Nat.not_lt] at *); omega)]; try with_reducible rfl)
                                              rotate_left
                                              · simp only [Act.put, List.setIfInBounds_toArray, List.set_cons_zero, List.set_cons_succ, i64_w, i32_w]
                                                rfl
                                              refine pure_ (i := 18) (N := some 94) (v := ?_) (a' := ?_) #[true, true, true, true, true, true, true, true, true, true, true, true, true, true, true, true, true, true, true, false, false, false, false] rfl rfl (any_of HT_.out (by kernel_rfl)) (fun _ _ _ h => h) (Or.inl ⟨by rfl, ?_⟩) ?_ ?_
                                              rotate_left
                                              · intro w'
                                                go_simp
                                                first | with_reducible rfl | (rw [if_neg (by (try simp only [decide_eq_true_eq, ByteArray.size_append, ByteArray.size_extract, eq_iff_iff, iff_true, iff_false, Nat.not_lt] at *); omega)]; try with_reducible rfl)
                                              rotate_left
                                              · simp only [Act.put, List.setIfInBounds_toArray, List.set_cons_zero, List.set_cons_succ, i64_w, i32_w]
                                                rfl
                                              refine pure_ (i := 19) (N := some 95) (v := ?_) (a' := ?_) #[true, true, true, true, true, true, true, true, true, true, true, true, true, true, true, true, true, true, true, true, false, false, false] rfl rfl (any_of HT_.out (by kernel_rfl)) (fun _ _ _ h => h) (Or.inl ⟨by rfl, ?_⟩) ?_ ?_
                                              rotate_left
                                              · intro w'
                                                go_simp
                                                first | with_reducible rfl | (rw [if_neg (by (try simp only [decide_eq_true_eq, ByteArray.size_append, ByteArray.size_extract, eq_iff_iff, iff_true, iff_false, Nat.not_lt] at *); omega)]; try with_reducible rfl)
                                              rotate_left
                                              · simp only [Act.put, List.setIfInBounds_toArray, List.set_cons_zero, List.set_cons_succ, i64_w, i32_w]
                                                rfl
                                              refine one_ (i := 20) (N := some 96) #[true, true, true, true, true, true, true, true, true, true, true, true, true, true, true, true, true, true, true, true, true, false, false] rfl rfl (one_of HT_.out (by kernel_rfl)) (by decide) (fun K hK => ?_)
                                              refine goes_ Try.func11 (by kernel_rfl) rfl #[] (by rfl) rfl rfl (by (try simp only [List.map_toArray, List.map_cons, List.map_nil]); first | done | rfl | (simp only [List.length_drop, List.length_take]; rfl)) ?_
                                              with_reducible refine (gangwaylaw03_fixed.calls kj60  t204 _ A75.out).mono ?_
                                              rintro e w85 ⟨rfl, hb⟩
                                              refine ⟨_, rfl, ?_⟩
                                              have n0_ := Aside0.mk (Kd.R_below (by (with_reducible repeat (first | apply Kd.R_alloc | apply Kd.R_drewN | apply Kd.R_drew)); exact HO199.out) hb)
                                              have n1_ := Aside0.mk (Kd.R_below (by (with_reducible repeat (first | apply Kd.R_alloc | apply Kd.R_drewN | apply Kd.R_drew)); exact HO202.out) hb)
                                              have n2_ := Aside0.mk (below_step (by repeat (first | (with_reducible first | exact HB.out | apply below_alloc | apply pw_below_drewN | apply below_drew1) | exact HB.out)) hb)
                                              clear HO199
                                              clear HO202
                                              clear HB
                                              have HO199 := n0_
                                              have HO202 := n1_
                                              have HB := n2_
                                              clear n0_ n1_ n2_
                                              (try clear hb)
                                              (try clear hb2)
                                              (try clear hk)
                                              (try clear hi)
                                              refine hK.out _ _ trivial (fun hHeld => ?_)
                                              clear hK K
                                              refine norm_ (a' := ?_) ?_ ?_
                                              rotate_left
                                              · show Act.put _ (some 96) _ = _
                                                simp only [Act.put, List.setIfInBounds_toArray, List.set_cons_zero, List.set_cons_succ, i64_w, i32_w]
                                                rfl
                                              refine pure_ (i := 21) (N := some 97) (v := ?_) (a' := ?_) #[true, true, true, true, true, true, true, true, true, true, true, true, true, true, true, true, true, true, true, true, true, true, false] rfl rfl (any_of HT_.out (by kernel_rfl)) (fun _ _ _ h => h) (Or.inl ⟨by rfl, ?_⟩) ?_ ?_
                                              rotate_left
                                              · intro w'
                                                go_simp
                                                first | with_reducible rfl | (rw [if_neg (by (try simp only [decide_eq_true_eq, ByteArray.size_append, ByteArray.size_extract, eq_iff_iff, iff_true, iff_false, Nat.not_lt] at *); omega)]; try with_reducible rfl)
                                              rotate_left
                                              · simp only [Act.put, List.setIfInBounds_toArray, List.set_cons_zero, List.set_cons_succ, i64_w, i32_w]
                                                rfl
                                              refine pure_ (i := 22) (N := some 6) (v := ?_) (a' := ?_) #[true, true, true, true, true, true, true, true, true, true, true, true, true, true, true, true, true, true, true, true, true, true, true] rfl rfl (any_of HT_.out (by kernel_rfl)) (fun _ _ _ h => h) (Or.inl ⟨by rfl, ?_⟩) ?_ ?_
                                              rotate_left
                                              · intro w'
                                                go_simp
                                                first | with_reducible rfl | (rw [if_neg (by (try simp only [decide_eq_true_eq, ByteArray.size_append, ByteArray.size_extract, eq_iff_iff, iff_true, iff_false, Nat.not_lt] at *); omega)]; try with_reducible rfl)
                                              rotate_left
                                              · simp only [Act.put, List.setIfInBounds_toArray, List.set_cons_zero, List.set_cons_succ, i64_w, i32_w]
                                                rfl
                                              refine done_ (done_of HT_.out (by kernel_rfl)) ?_
                                              try go_wp2
                                              go_ret
                                              exact ⟨by first | rfl | (simp [errW_none, errW_some] <;> rfl) | (simp only [← hji66]; first | rfl | (simp [errW_none, errW_some] <;> rfl)) | (simp [*, errW_none, errW_some] <;> rfl), by repeat (first | (with_reducible first | exact HB.out | apply below_alloc | apply pw_below_drewN | apply below_drew1) | exact HB.out)⟩
                                            · rw [if_neg c74] at H
                                              have c74b0 : (t203 == true) = false := by simpa using c74
                                              (try (have c74b1 : decide (t203 = true) = false := by simpa using c74))
                                              (try (have c74b2 : (t203 == true) = false := by simpa using c74))
                                              (try (have c74b3 : ¬ (t203 = true) := by simpa using c74))
                                              clear c74
                                              obtain rfl := Option.some.inj H
                                              try go_wp2
                                              have n0_ := Aside0.mk (below_drew1 HB.out)
                                              clear HB
                                              have HB := n0_
                                              clear n0_
                                              refine start_ (n := 13) (S := fun w' => True) (ds := []) #[false, false, false, false, false, false, false, false, false, false, false, false, false] (by kernel_rfl) rfl rfl trivial (fun hHeld => ?_); refine with_tabW gangwaylaw03_CsumSeals.tab8 gangwaylaw03_CsumSeals.bits8 (fun HT_ HW_ => ?_)
                                              generalize wc.drew = w86 at HB hHeld ⊢
                                              refine pure_ (i := 0) (N := some 64) (v := ?_) (a' := ?_) #[true, false, false, false, false, false, false, false, false, false, false, false, false] rfl rfl (any_of HT_.out (by kernel_rfl)) (fun _ _ _ h => h) (Or.inl ⟨by rfl, ?_⟩) ?_ ?_
                                              rotate_left
                                              · intro w'
                                                go_simp
                                                first | with_reducible rfl | (rw [if_neg (by (try simp only [decide_eq_true_eq, ByteArray.size_append, ByteArray.size_extract, eq_iff_iff, iff_true, iff_false, Nat.not_lt] at *); omega)]; try with_reducible rfl)
                                              rotate_left
                                              · simp only [Act.put, List.setIfInBounds_toArray, List.set_cons_zero, List.set_cons_succ, i64_w, i32_w]
                                                rfl
                                              refine pure_ (i := 1) (N := some 65) (v := ?_) (a' := ?_) #[true, true, false, false, false, false, false, false, false, false, false, false, false] rfl rfl (any_of HT_.out (by kernel_rfl)) (fun _ _ _ h => h) (Or.inl ⟨by rfl, ?_⟩) ?_ ?_
                                              rotate_left
                                              · intro w'
                                                go_simp
                                                first | with_reducible rfl | (rw [if_neg (by (try simp only [decide_eq_true_eq, ByteArray.size_append, ByteArray.size_extract, eq_iff_iff, iff_true, iff_false, Nat.not_lt] at *); omega)]; try with_reducible rfl)
                                              rotate_left
                                              · simp only [Act.put, List.setIfInBounds_toArray, List.set_cons_zero, List.set_cons_succ, i64_w, i32_w]
                                                rfl
                                              refine pure_ (i := 2) (N := some 66) (v := ?_) (a' := ?_) #[true, true, true, false, false, false, false, false, false, false, false, false, false] rfl rfl (any_of HT_.out (by kernel_rfl)) (fun _ _ _ h => h) (Or.inl ⟨by rfl, ?_⟩) ?_ ?_
                                              rotate_left
                                              · intro w'
                                                go_simp
                                                first | with_reducible rfl | (rw [if_neg (by (try simp only [decide_eq_true_eq, ByteArray.size_append, ByteArray.size_extract, eq_iff_iff, iff_true, iff_false, Nat.not_lt] at *); omega)]; try with_reducible rfl)
                                              rotate_left
                                              · simp only [Act.put, List.setIfInBounds_toArray, List.set_cons_zero, List.set_cons_succ, i64_w, i32_w]
                                                rfl
                                              refine pure_ (i := 3) (N := some 67) (v := ?_) (a' := ?_) #[true, true, true, true, false, false, false, false, false, false, false, false, false] rfl rfl (any_of HT_.out (by kernel_rfl)) (fun _ _ _ h => h) (Or.inl ⟨by rfl, ?_⟩) ?_ ?_
                                              rotate_left
                                              · intro w'
                                                go_simp
                                                first | with_reducible rfl | (rw [if_neg (by (try simp only [decide_eq_true_eq, ByteArray.size_append, ByteArray.size_extract, eq_iff_iff, iff_true, iff_false, Nat.not_lt] at *); omega)]; try with_reducible rfl)
                                              rotate_left
                                              · simp only [Act.put, List.setIfInBounds_toArray, List.set_cons_zero, List.set_cons_succ, i64_w, i32_w]
                                                rfl
                                              refine pure_ (i := 7) (N := some 71) (v := ?_) (a' := ?_) #[true, true, true, true, false, false, false, true, false, false, false, false, false] rfl rfl (any_of HT_.out (by kernel_rfl)) (fun _ _ _ h => h) (Or.inl ⟨by rfl, ?_⟩) ?_ ?_
                                              rotate_left
                                              · intro w'
                                                go_simp
                                                first | with_reducible rfl | (rw [if_neg (by (try simp only [decide_eq_true_eq, ByteArray.size_append, ByteArray.size_extract, eq_iff_iff, iff_true, iff_false, Nat.not_lt] at *); omega)]; try with_reducible rfl)
                                              rotate_left
                                              · simp only [Act.put, List.setIfInBounds_toArray, List.set_cons_zero, List.set_cons_succ, i64_w, i32_w]
                                                rfl
                                              refine pure_ (i := 8) (N := some 72) (v := ?_) (a' := ?_) #[true, true, true, true, false, false, false, true, true, false, false, false, false] rfl rfl (any_of HT_.out (by kernel_rfl)) (fun _ _ _ h => h) (Or.inl ⟨by rfl, ?_⟩) ?_ ?_
                                              rotate_left
                                              · intro w'
                                                go_simp
                                                first | with_reducible rfl | (rw [if_neg (by (try simp only [decide_eq_true_eq, ByteArray.size_append, ByteArray.size_extract, eq_iff_iff, iff_true, iff_false, Nat.not_lt] at *); omega)]; try with_reducible rfl)
                                              rotate_left
                                              · simp only [Act.put, List.setIfInBounds_toArray, List.set_cons_zero, List.set_cons_succ, i64_w, i32_w]
                                                rfl
                                              refine pure_ (i := 9) (N := some 73) (v := ?_) (a' := ?_) #[true, true, true, true, false, false, false, true, true, true, false, false, false] rfl rfl (any_of HT_.out (by kernel_rfl)) (fun _ _ _ h => h) (Or.inl ⟨by rfl, ?_⟩) ?_ ?_
                                              rotate_left
                                              · intro w'
                                                go_simp
                                                first | with_reducible rfl | (rw [if_neg (by (try simp only [decide_eq_true_eq, ByteArray.size_append, ByteArray.size_extract, eq_iff_iff, iff_true, iff_false, Nat.not_lt] at *); omega)]; try with_reducible rfl)
                                              rotate_left
                                              · simp only [Act.put, List.setIfInBounds_toArray, List.set_cons_zero, List.set_cons_succ, i64_w, i32_w]
                                                rfl
                                              refine pure_ (i := 10) (N := some 74) (v := ?_) (a' := ?_) #[true, true, true, true, false, false, false, true, true, true, true, false, false] rfl rfl (any_of HT_.out (by kernel_rfl)) (fun _ _ _ h => h) (Or.inl ⟨by rfl, ?_⟩) ?_ ?_
                                              rotate_left
                                              · intro w'
                                                go_simp
                                                first | with_reducible rfl | (rw [if_neg (by (try simp only [decide_eq_true_eq, ByteArray.size_append, ByteArray.size_extract, eq_iff_iff, iff_true, iff_false, Nat.not_lt] at *); omega)]; try with_reducible rfl)
                                              rotate_left
                                              · simp only [Act.put, List.setIfInBounds_toArray, List.set_cons_zero, List.set_cons_succ, i64_w, i32_w]
                                                rfl
                                              refine one_ (i := 4) (N := some 68) #[true, true, true, true, true, false, false, true, true, true, true, false, false] rfl rfl (one_of HT_.out (by kernel_rfl)) (by decide) (fun K hK => ?_)
                                              refine Kd.R_lit_step (Kd.int .u8) _ 5 ?hg (N := 68) ?hd (xs := ([a2] : List Int)) (inner := [.int .u8 a2]) (ok := fun _ => True) (okp := fun _ => True) ?hr ?hp (fun _ hk => hk) trivial (Below.refl _ _) (Nat.le_refl _) (by simp) ?_; (case hd => rfl); (case hg => rfl); (case hr => first | (go_simp; done) | (go_simp; rfl)); (case hp => exact (Reps.one (show Kd.M (Kd.int .u8) _ _ _ a2 [.int .u8 a2] from rfl) (Reps.none _ _)))
                                              intro v198 w87 ho88 hb hg_ hnew_
                                              clear hg_ hnew_
                                              (first | rw [← Ny197.out] at ho88 | (simp only [Int.reduceToNat] at ho88; rw [← Ny197.out] at ho88))
                                              have n0_ := Aside0.mk (Kd.R_lower ho88 (below_size (by repeat (first | (with_reducible first | exact HB.out | apply below_alloc | apply pw_below_drewN | apply below_drew1) | exact HB.out))))
                                              have n1_ := Aside0.mk (below_step (by repeat (first | (with_reducible first | exact HB.out | apply below_alloc | apply pw_below_drewN | apply below_drew1) | exact HB.out)) hb)
                                              clear HB
                                              have HO199 := n0_
                                              have HB := n1_
                                              clear n0_ n1_
                                              clear hb ho88
                                              refine hK.out _ _ trivial (fun hHeld => ?_)
                                              clear hK K
                                              refine norm_ (a' := ?_) ?_ ?_
                                              rotate_left
                                              · show Act.put _ (some 68) _ = _
                                                simp only [Act.put, List.setIfInBounds_toArray, List.set_cons_zero, List.set_cons_succ, i64_w, i32_w]
                                                rfl
                                              refine one_ (i := 5) (N := some 69) #[true, true, true, true, true, true, false, true, true, true, true, false, false] rfl rfl (one_of HT_.out (by kernel_rfl)) (by decide) (fun K hK => ?_)
                                              have hcv89 := own_string (P := Try.prog) Try.underlying36 Try.underlying5 Try.underlying9 (Kd.own_of_R HO199.out)
                                              refine value_ (w1 := ?_) (v := ?_) (by rfl) rfl ?_ ?_
                                              rotate_left 2
                                              · go_simp
                                                constructor
                                                · rfl
                                                · rfl
                                              clear hcv89
                                              refine hK.out _ _ trivial (fun hHeld => ?_)
                                              clear hK K
                                              refine norm_ (a' := ?_) ?_ ?_
                                              rotate_left
                                              · show Act.put _ (some 69) _ = _
                                                simp only [Act.put, List.setIfInBounds_toArray, List.set_cons_zero, List.set_cons_succ, i64_w, i32_w]
                                                rfl
                                              refine pure_ (i := 6) (N := some 70) (v := ?_) (a' := ?_) #[true, true, true, true, true, true, true, true, true, true, true, false, false] rfl rfl (any_of HT_.out (by kernel_rfl)) (fun _ _ _ h => h) (Or.inl ⟨by rfl, ?_⟩) ?_ ?_
                                              rotate_left
                                              · intro w'
                                                go_simp
                                                first | with_reducible rfl | (rw [if_neg (by (try simp only [decide_eq_true_eq, ByteArray.size_append, ByteArray.size_extract, eq_iff_iff, iff_true, iff_false, Nat.not_lt] at *); omega)]; try with_reducible rfl)
                                              rotate_left
                                              · simp only [Act.put, List.setIfInBounds_toArray, List.set_cons_zero, List.set_cons_succ, i64_w, i32_w]
                                                rfl
                                              refine pure_ (i := 11) (N := some 75) (v := ?_) (a' := ?_) #[true, true, true, true, true, true, true, true, true, true, true, true, false] rfl rfl (any_of HT_.out (by kernel_rfl)) (fun _ _ _ h => h) (Or.inl ⟨by rfl, ?_⟩) ?_ ?_
                                              rotate_left
                                              · intro w'
                                                go_simp
                                                first | with_reducible rfl | (rw [if_neg (by (try simp only [decide_eq_true_eq, ByteArray.size_append, ByteArray.size_extract, eq_iff_iff, iff_true, iff_false, Nat.not_lt] at *); omega)]; try with_reducible rfl)
                                              rotate_left
                                              · simp only [Act.put, List.setIfInBounds_toArray, List.set_cons_zero, List.set_cons_succ, i64_w, i32_w]
                                                rfl
                                              refine pure_ (i := 12) (N := some 9) (v := ?_) (a' := ?_) #[true, true, true, true, true, true, true, true, true, true, true, true, true] rfl rfl (any_of HT_.out (by kernel_rfl)) (fun _ _ _ h => h) (Or.inl ⟨by rfl, ?_⟩) ?_ ?_
                                              rotate_left
                                              · intro w'
                                                go_simp
                                                first | with_reducible rfl | (rw [if_neg (by (try simp only [decide_eq_true_eq, ByteArray.size_append, ByteArray.size_extract, eq_iff_iff, iff_true, iff_false, Nat.not_lt] at *); omega)]; try with_reducible rfl)
                                              rotate_left
                                              · simp only [Act.put, List.setIfInBounds_toArray, List.set_cons_zero, List.set_cons_succ, i64_w, i32_w]
                                                rfl
                                              refine done_ (done_of HT_.out (by kernel_rfl)) ?_
                                              try go_wp2
                                              have n0_ := Aside0.mk (Kd.R_drew HO199.out)
                                              have n1_ := Aside0.mk (below_drew1 HB.out)
                                              clear HO199
                                              clear HB
                                              have HO199 := n0_
                                              have HB := n1_
                                              clear n0_ n1_
                                              have p72 : 0 ≤ (x8_60 : Int) := of_decide_eq_true (by first | (with_reducible assumption) | assumption)
                                              have q72 : x8_60 < (x0_8.size : Int) := of_decide_eq_true (by first | (with_reducible assumption) | assumption)
                                              have hx72 := bt_at x0_8 x8_60
                                              replace p72 := eq_true p72
                                              replace q72 := eq_true q72
                                              refine start_ (n := 23) (S := fun w' => True) (ds := []) #[false, false, false, false, false, false, false, false, false, false, false, false, false, false, false, false, false, false, false, false, false, false, false] (by kernel_rfl) rfl rfl trivial (fun hHeld => ?_); refine with_tabW gangwaylaw03_CsumSeals.tab9 gangwaylaw03_CsumSeals.bits9 (fun HT_ HW_ => ?_)
                                              generalize w87.drew = w90 at HO199 HB hHeld ⊢
                                              refine pure_ (i := 0) (N := some 76) (v := ?_) (a' := ?_) #[true, false, false, false, false, false, false, false, false, false, false, false, false, false, false, false, false, false, false, false, false, false, false] rfl rfl (any_of HT_.out (by kernel_rfl)) (fun _ _ _ h => h) (Or.inl ⟨by rfl, ?_⟩) ?_ ?_
                                              rotate_left
                                              · intro w'
                                                go_simp
                                                first | with_reducible rfl | (rw [if_neg (by (try simp only [decide_eq_true_eq, ByteArray.size_append, ByteArray.size_extract, eq_iff_iff, iff_true, iff_false, Nat.not_lt] at *); omega)]; try with_reducible rfl)
                                              rotate_left
                                              · simp only [Act.put, List.setIfInBounds_toArray, List.set_cons_zero, List.set_cons_succ, i64_w, i32_w]
                                                rfl
                                              refine pure_ (i := 1) (N := some 77) (v := ?_) (a' := ?_) #[true, true, false, false, false, false, false, false, false, false, false, false, false, false, false, false, false, false, false, false, false, false, false] rfl rfl (any_of HT_.out (by kernel_rfl)) (fun _ _ _ h => h) (Or.inl ⟨by rfl, ?_⟩) ?_ ?_
                                              rotate_left
                                              · intro w'
                                                go_simp
                                                first | with_reducible rfl | (rw [if_neg (by (try simp only [decide_eq_true_eq, ByteArray.size_append, ByteArray.size_extract, eq_iff_iff, iff_true, iff_false, Nat.not_lt] at *); omega)]; try with_reducible rfl)
                                              rotate_left
                                              · simp only [Act.put, List.setIfInBounds_toArray, List.set_cons_zero, List.set_cons_succ, i64_w, i32_w]
                                                rfl
                                              refine pure_ (i := 4) (N := some 80) (v := ?_) (a' := ?_) #[true, true, false, false, true, false, false, false, false, false, false, false, false, false, false, false, false, false, false, false, false, false, false] rfl rfl (any_of HT_.out (by kernel_rfl)) (fun _ _ _ h => h) (Or.inl ⟨by rfl, ?_⟩) ?_ ?_
                                              rotate_left
                                              · intro w'
                                                go_simp
                                                first | with_reducible rfl | (rw [if_neg (by (try simp only [decide_eq_true_eq, ByteArray.size_append, ByteArray.size_extract, eq_iff_iff, iff_true, iff_false, Nat.not_lt] at *); omega)]; try with_reducible rfl)
                                              rotate_left
                                              · simp only [Act.put, List.setIfInBounds_toArray, List.set_cons_zero, List.set_cons_succ, i64_w, i32_w]
                                                rfl
                                              refine pure_ (i := 5) (N := some 81) (v := ?_) (a' := ?_) #[true, true, false, false, true, true, false, false, false, false, false, false, false, false, false, false, false, false, false, false, false, false, false] rfl rfl (any_of HT_.out (by kernel_rfl)) (fun _ _ _ h => h) (Or.inl ⟨by rfl, ?_⟩) ?_ ?_
                                              rotate_left
                                              · intro w'
                                                go_simp
                                                first | with_reducible rfl | (rw [if_neg (by (try simp only [decide_eq_true_eq, ByteArray.size_append, ByteArray.size_extract, eq_iff_iff, iff_true, iff_false, Nat.not_lt] at *); omega)]; try with_reducible rfl)
                                              rotate_left
                                              · simp only [Act.put, List.setIfInBounds_toArray, List.set_cons_zero, List.set_cons_succ, i64_w, i32_w]
                                                rfl
                                              refine pure_ (i := 6) (N := some 82) (v := ?_) (a' := ?_) #[true, true, false, false, true, true, true, false, false, false, false, false, false, false, false, false, false, false, false, false, false, false, false] rfl rfl (any_of HT_.out (by kernel_rfl)) (fun _ _ _ h => h) (Or.inl ⟨by rfl, ?_⟩) ?_ ?_
                                              rotate_left
                                              · intro w'
                                                go_simp
                                                first | with_reducible rfl | (rw [if_neg (by (try simp only [decide_eq_true_eq, ByteArray.size_append, ByteArray.size_extract, eq_iff_iff, iff_true, iff_false, Nat.not_lt] at *); omega)]; try with_reducible rfl)
                                              rotate_left
                                              · simp only [Act.put, List.setIfInBounds_toArray, List.set_cons_zero, List.set_cons_succ, i64_w, i32_w]
                                                rfl
                                              refine take_ (i := 7) (N := some 83) (v := ?_) (a' := ?_) #[true, true, false, false, true, true, true, true, false, false, false, false, false, false, false, false, false, false, false, false, false, false, false] rfl rfl (take_ofW HT_.out HW_.out (by kernel_rfl)) (fun _ _ _ h => h) (Or.inl ⟨by rfl, ?_⟩) hHeld ?_ ?_
                                              rotate_left
                                              · intro w' _
                                                go_simp
                                                with_reducible rfl
                                              rotate_left
                                              · simp only [Act.put, List.setIfInBounds_toArray, List.set_cons_zero, List.set_cons_succ, i64_w, i32_w]
                                                rfl
                                              refine pure_ (i := 8) (N := some 84) (v := ?_) (a' := ?_) #[true, true, false, false, true, true, true, true, true, false, false, false, false, false, false, false, false, false, false, false, false, false, false] rfl rfl (any_of HT_.out (by kernel_rfl)) (fun _ _ _ h => h) (Or.inl ⟨by rfl, ?_⟩) ?_ ?_
                                              rotate_left
                                              · intro w'
                                                go_simp
                                                first | with_reducible rfl | (rw [if_neg (by (try simp only [decide_eq_true_eq, ByteArray.size_append, ByteArray.size_extract, eq_iff_iff, iff_true, iff_false, Nat.not_lt] at *); omega)]; try with_reducible rfl)
                                              rotate_left
                                              · simp only [Act.put, List.setIfInBounds_toArray, List.set_cons_zero, List.set_cons_succ, i64_w, i32_w]
                                                rfl
                                              refine one_ (i := 2) (N := some 78) #[true, true, true, false, true, true, true, true, true, false, false, false, false, false, false, false, false, false, false, false, false, false, false] rfl rfl (one_of HT_.out (by kernel_rfl)) (by decide) (fun K hK => ?_)
                                              refine Kd.R_lit_step Kd.string _ 9 ?hg (N := 78) ?hd (xs := ([((x0_8.extract 0 (x8_60 : Int).toNat) ++ (strOfNums y197)) ++ (x0_8.extract ((ji66) : Int).toNat x0_8.size), x7_13] : List ByteArray)) (inner := [.string (((x0_8.extract 0 (x8_60 : Int).toNat) ++ (strOfNums y197)) ++ (x0_8.extract ((ji66) : Int).toNat x0_8.size)), .string x7_13]) (ok := fun _ => True) (okp := fun _ => True) ?hr ?hp (fun _ hk => hk) trivial (Below.refl _ _) (Nat.le_refl _) (by simp) ?_; (case hd => rfl); (case hg => rfl); (case hr => first | (go_simp; done) | (go_simp; rfl)); (case hp => exact (Reps.one (show Kd.M Kd.string _ _ _ (((x0_8.extract 0 (x8_60 : Int).toNat) ++ (strOfNums y197)) ++ (x0_8.extract ((ji66) : Int).toNat x0_8.size)) [.string (((x0_8.extract 0 (x8_60 : Int).toNat) ++ (strOfNums y197)) ++ (x0_8.extract ((ji66) : Int).toNat x0_8.size))] from rfl) (Reps.one (show Kd.M Kd.string _ _ _ x7_13 [.string x7_13] from rfl) (Reps.none _ _))))
                                              intro v201 w91 ho92 hb hg_ hnew_
                                              clear hg_ hnew_
                                              (first | rw [← Ny200.out] at ho92 | (simp only [Int.reduceToNat] at ho92; rw [← Ny200.out] at ho92))
                                              have n0_ := Aside0.mk (Kd.R_below (by (with_reducible repeat (first | apply Kd.R_alloc | apply Kd.R_drewN | apply Kd.R_drew)); exact HO199.out) hb)
                                              have n1_ := Aside0.mk (Kd.R_lower ho92 (below_size (by repeat (first | (with_reducible first | exact HB.out | apply below_alloc | apply pw_below_drewN | apply below_drew1) | exact HB.out))))
                                              have n2_ := Aside0.mk (below_step (by repeat (first | (with_reducible first | exact HB.out | apply below_alloc | apply pw_below_drewN | apply below_drew1) | exact HB.out)) hb)
                                              clear HO199
                                              clear HB
                                              have HO199 := n0_
                                              have HO202 := n1_
                                              have HB := n2_
                                              clear n0_ n1_ n2_
                                              clear hb ho92
                                              obtain ⟨Ao93, co93, eo93⟩ := Kd.R_slice HO202.out
                                              (first | subst eo93 | (injection eo93 with f1_ f2_ f3_; have f4_ := f1_.symm; have f5_ := f3_.symm; clear f1_ f2_ f3_; subst f4_; subst f5_))
                                              refine hK.out _ _ trivial (fun hHeld => ?_)
                                              clear hK K
                                              refine norm_ (a' := ?_) ?_ ?_
                                              rotate_left
                                              · show Act.put _ (some 78) _ = _
                                                simp only [Act.put, List.setIfInBounds_toArray, List.set_cons_zero, List.set_cons_succ, i64_w, i32_w]
                                                rfl
                                              refine one_ (i := 3) (N := some 79) #[true, true, true, true, true, true, true, true, true, false, false, false, false, false, false, false, false, false, false, false, false, false, false] rfl rfl (one_of HT_.out (by kernel_rfl)) (by decide) (fun K hK => ?_)
                                              refine goes_ Try.func14 (by kernel_rfl) rfl #[.slice Ao93 y200.length co93] (by rfl) rfl rfl (by (try simp only [List.map_toArray, List.map_cons, List.map_nil]); first | done | rfl | (simp only [List.length_drop, List.length_take]; rfl)) ?_
                                              with_reducible refine (csum_Right.calls kj60 _ _ y200 t203 _ ?side1 ?side2 A70.out).mono ?_
                                              (case side1 => repeat (first | exact (Kd.R_reads' HO202.out).2.2 | (with_reducible refine Kd.C_alloc ?_ _) | (with_reducible refine Kd.C_drewN ?_ _) | (with_reducible refine Kd.C_drew ?_)))
                                              (case side2 => exact (Kd.R_reads' HO202.out).2.1)
                                              rintro e w94 ⟨rfl, hb⟩
                                              refine ⟨_, rfl, ?_⟩
                                              have n0_ := Aside0.mk (Kd.R_below (by (with_reducible repeat (first | apply Kd.R_alloc | apply Kd.R_drewN | apply Kd.R_drew)); exact HO199.out) hb)
                                              have n1_ := Aside0.mk (Kd.R_below (by (with_reducible repeat (first | apply Kd.R_alloc | apply Kd.R_drewN | apply Kd.R_drew)); exact HO202.out) hb)
                                              have n2_ := Aside0.mk (below_step (by repeat (first | (with_reducible first | exact HB.out | apply below_alloc | apply pw_below_drewN | apply below_drew1) | exact HB.out)) hb)
                                              clear HO199
                                              clear HO202
                                              clear HB
                                              have HO199 := n0_
                                              have HO202 := n1_
                                              have HB := n2_
                                              clear n0_ n1_ n2_
                                              (try clear hb)
                                              (try clear hb2)
                                              (try clear hk)
                                              (try clear hi)
                                              refine hK.out _ _ trivial (fun hHeld => ?_)
                                              clear hK K
                                              refine norm_ (a' := ?_) ?_ ?_
                                              rotate_left
                                              · show Act.put _ (some 79) _ = _
                                                simp only [Act.put, List.setIfInBounds_toArray, List.set_cons_zero, List.set_cons_succ, i64_w, i32_w]
                                                rfl
                                              refine pure_ (i := 9) (N := some 85) (v := ?_) (a' := ?_) #[true, true, true, true, true, true, true, true, true, true, false, false, false, false, false, false, false, false, false, false, false, false, false] rfl rfl (any_of HT_.out (by kernel_rfl)) (fun _ _ _ h => h) (Or.inl ⟨by rfl, ?_⟩) ?_ ?_
                                              rotate_left
                                              · intro w'
                                                go_simp
                                                first | with_reducible rfl | (rw [if_neg (by (try simp only [decide_eq_true_eq, ByteArray.size_append, ByteArray.size_extract, eq_iff_iff, iff_true, iff_false, Nat.not_lt] at *); omega)]; try with_reducible rfl)
                                              rotate_left
                                              · simp only [Act.put, List.setIfInBounds_toArray, List.set_cons_zero, List.set_cons_succ, i64_w, i32_w]
                                                rfl
                                              refine pure_ (i := 10) (N := some 86) (v := undef) (a' := ?_) #[true, true, true, true, true, true, true, true, true, true, true, false, false, false, false, false, false, false, false, false, false, false, false] rfl rfl (any_of HT_.out (by kernel_rfl)) (fun _ _ _ h => h) (Or.inr ⟨by rfl, rfl⟩) ?_ ?_
                                              rotate_left
                                              · simp only [Act.put, List.setIfInBounds_toArray, List.set_cons_zero, List.set_cons_succ, i64_w, i32_w]
                                                rfl
                                              refine pure_ (i := 11) (N := some 87) (v := undef) (a' := ?_) #[true, true, true, true, true, true, true, true, true, true, true, true, false, false, false, false, false, false, false, false, false, false, false] rfl rfl (any_of HT_.out (by kernel_rfl)) (fun _ _ _ h => h) (Or.inr ⟨by rfl, rfl⟩) ?_ ?_
                                              rotate_left
                                              · simp only [Act.put, List.setIfInBounds_toArray, List.set_cons_zero, List.set_cons_succ, i64_w, i32_w]
                                                rfl
                                              refine pure_ (i := 12) (N := some 88) (v := undef) (a' := ?_) #[true, true, true, true, true, true, true, true, true, true, true, true, true, false, false, false, false, false, false, false, false, false, false] rfl rfl (any_of HT_.out (by kernel_rfl)) (fun _ _ _ h => h) (Or.inr ⟨by rfl, rfl⟩) ?_ ?_
                                              rotate_left
                                              · simp only [Act.put, List.setIfInBounds_toArray, List.set_cons_zero, List.set_cons_succ, i64_w, i32_w]
                                                rfl
                                              refine pure_ (i := 13) (N := some 89) (v := undef) (a' := ?_) #[true, true, true, true, true, true, true, true, true, true, true, true, true, true, false, false, false, false, false, false, false, false, false] rfl rfl (any_of HT_.out (by kernel_rfl)) (fun _ _ _ h => h) (Or.inr ⟨by rfl, rfl⟩) ?_ ?_
                                              rotate_left
                                              · simp only [Act.put, List.setIfInBounds_toArray, List.set_cons_zero, List.set_cons_succ, i64_w, i32_w]
                                                rfl
                                              refine pure_ (i := 14) (N := some 90) (v := undef) (a' := ?_) #[true, true, true, true, true, true, true, true, true, true, true, true, true, true, true, false, false, false, false, false, false, false, false] rfl rfl (any_of HT_.out (by kernel_rfl)) (fun _ _ _ h => h) (Or.inr ⟨by rfl, rfl⟩) ?_ ?_
                                              rotate_left
                                              · simp only [Act.put, List.setIfInBounds_toArray, List.set_cons_zero, List.set_cons_succ, i64_w, i32_w]
                                                rfl
                                              refine pure_ (i := 15) (N := some 91) (v := undef) (a' := ?_) #[true, true, true, true, true, true, true, true, true, true, true, true, true, true, true, true, false, false, false, false, false, false, false] rfl rfl (any_of HT_.out (by kernel_rfl)) (fun _ _ _ h => h) (Or.inr ⟨by rfl, rfl⟩) ?_ ?_
                                              rotate_left
                                              · simp only [Act.put, List.setIfInBounds_toArray, List.set_cons_zero, List.set_cons_succ, i64_w, i32_w]
                                                rfl
                                              refine pure_ (i := 16) (N := some 92) (v := undef) (a' := ?_) #[true, true, true, true, true, true, true, true, true, true, true, true, true, true, true, true, true, false, false, false, false, false, false] rfl rfl (any_of HT_.out (by kernel_rfl)) (fun _ _ _ h => h) (Or.inr ⟨by rfl, rfl⟩) ?_ ?_
                                              rotate_left
                                              · simp only [Act.put, List.setIfInBounds_toArray, List.set_cons_zero, List.set_cons_succ, i64_w, i32_w]
                                                rfl
                                              refine pure_ (i := 17) (N := some 93) (v := ?_) (a' := ?_) #[true, true, true, true, true, true, true, true, true, true, true, true, true, true, true, true, true, true, false, false, false, false, false] rfl rfl (any_of HT_.out (by kernel_rfl)) (fun _ _ _ h => h) (Or.inl ⟨by rfl, ?_⟩) ?_ ?_
                                              rotate_left
                                              · intro w'
                                                go_simp
                                                first | with_reducible rfl | (rw [if_neg (by (try simp only [decide_eq_true_eq, ByteArray.size_append, ByteArray.size_extract, eq_iff_iff, iff_true, iff_false, Nat.not_lt] at *); omega)]; try with_reducible rfl)
                                              rotate_left
                                              · simp only [Act.put, List.setIfInBounds_toArray, List.set_cons_zero, List.set_cons_succ, i64_w, i32_w]
                                                rfl
                                              refine pure_ (i := 18) (N := some 94) (v := ?_) (a' := ?_) #[true, true, true, true, true, true, true, true, true, true, true, true, true, true, true, true, true, true, true, false, false, false, false] rfl rfl (any_of HT_.out (by kernel_rfl)) (fun _ _ _ h => h) (Or.inl ⟨by rfl, ?_⟩) ?_ ?_
                                              rotate_left
                                              · intro w'
                                                go_simp
                                                first | with_reducible rfl | (rw [if_neg (by (try simp only [decide_eq_true_eq, ByteArray.size_append, ByteArray.size_extract, eq_iff_iff, iff_true, iff_false, Nat.not_lt] at *); omega)]; try with_reducible rfl)
                                              rotate_left
                                              · simp only [Act.put, List.setIfInBounds_toArray, List.set_cons_zero, List.set_cons_succ, i64_w, i32_w]
                                                rfl
                                              refine pure_ (i := 19) (N := some 95) (v := ?_) (a' := ?_) #[true, true, true, true, true, true, true, true, true, true, true, true, true, true, true, true, true, true, true, true, false, false, false] rfl rfl (any_of HT_.out (by kernel_rfl)) (fun _ _ _ h => h) (Or.inl ⟨by rfl, ?_⟩) ?_ ?_
                                              rotate_left
                                              · intro w'
                                                go_simp
                                                first | with_reducible rfl | (rw [if_neg (by (try simp only [decide_eq_true_eq, ByteArray.size_append, ByteArray.size_extract, eq_iff_iff, iff_true, iff_false, Nat.not_lt] at *); omega)]; try with_reducible rfl)
                                              rotate_left
                                              · simp only [Act.put, List.setIfInBounds_toArray, List.set_cons_zero, List.set_cons_succ, i64_w, i32_w]
                                                rfl
                                              refine pure_ (i := 20) (N := some 96) (v := undef) (a' := ?_) #[true, true, true, true, true, true, true, true, true, true, true, true, true, true, true, true, true, true, true, true, true, false, false] rfl rfl (any_of HT_.out (by kernel_rfl)) (fun _ _ _ h => h) (Or.inr ⟨by rfl, rfl⟩) ?_ ?_
                                              rotate_left
                                              · simp only [Act.put, List.setIfInBounds_toArray, List.set_cons_zero, List.set_cons_succ, i64_w, i32_w]
                                                rfl
                                              refine pure_ (i := 21) (N := some 97) (v := ?_) (a' := ?_) #[true, true, true, true, true, true, true, true, true, true, true, true, true, true, true, true, true, true, true, true, true, true, false] rfl rfl (any_of HT_.out (by kernel_rfl)) (fun _ _ _ h => h) (Or.inl ⟨by rfl, ?_⟩) ?_ ?_
                                              rotate_left
                                              · intro w'
                                                go_simp
                                                first | with_reducible rfl | (rw [if_neg (by (try simp only [decide_eq_true_eq, ByteArray.size_append, ByteArray.size_extract, eq_iff_iff, iff_true, iff_false, Nat.not_lt] at *); omega)]; try with_reducible rfl)
                                              rotate_left
                                              · simp only [Act.put, List.setIfInBounds_toArray, List.set_cons_zero, List.set_cons_succ, i64_w, i32_w]
                                                rfl
                                              refine pure_ (i := 22) (N := some 6) (v := ?_) (a' := ?_) #[true, true, true, true, true, true, true, true, true, true, true, true, true, true, true, true, true, true, true, true, true, true, true] rfl rfl (any_of HT_.out (by kernel_rfl)) (fun _ _ _ h => h) (Or.inl ⟨by rfl, ?_⟩) ?_ ?_
                                              rotate_left
                                              · intro w'
                                                go_simp
                                                first | with_reducible rfl | (rw [if_neg (by (try simp only [decide_eq_true_eq, ByteArray.size_append, ByteArray.size_extract, eq_iff_iff, iff_true, iff_false, Nat.not_lt] at *); omega)]; try with_reducible rfl)
                                              rotate_left
                                              · simp only [Act.put, List.setIfInBounds_toArray, List.set_cons_zero, List.set_cons_succ, i64_w, i32_w]
                                                rfl
                                              refine done_ (done_of HT_.out (by kernel_rfl)) ?_
                                              try go_wp2
                                              go_ret
                                              exact ⟨by first | rfl | (simp [errW_none, errW_some] <;> rfl) | (simp only [← hji66]; first | rfl | (simp [errW_none, errW_some] <;> rfl)) | (simp [*, errW_none, errW_some] <;> rfl), by repeat (first | (with_reducible first | exact HB.out | apply below_alloc | apply pw_below_drewN | apply below_drew1) | exact HB.out)⟩
                                          · rw [if_neg c73] at H
                                            have c73b0 : (a2 == (bt x0_8 x8_60)) = false := beq_eq_false_iff_ne.mpr c73
                                            have c73b1 : (a2 != (bt x0_8 x8_60)) = true := bne_iff_ne.mpr c73
                                            replace H := Option.bind_eq_some_iff.mp H
                                            obtain ⟨t205, A950, H⟩ := H
                                            replace H : ((gangwayref03_Fold.f t205).bind fun t206 => ((gangwayref03_Total.f kj60 x0_8).bind fun t207 => ((gangwayref03_Fold.f t207).bind fun t208 => (if (t203 == (t206 == t208)) = true then ((gangwaylaw03_fixed.f kj60).bind fun t209 => (some t209)) else (some false))))) = some r := H
                                            have A95 := Aside0.mk A950
                                            clear A950
                                            replace H := Option.bind_eq_some_iff.mp H
                                            obtain ⟨t206, A960, H⟩ := H
                                            replace H : ((gangwayref03_Total.f kj60 x0_8).bind fun t207 => ((gangwayref03_Fold.f t207).bind fun t208 => (if (t203 == (t206 == t208)) = true then ((gangwaylaw03_fixed.f kj60).bind fun t209 => (some t209)) else (some false)))) = some r := H
                                            have A96 := Aside0.mk A960
                                            clear A960
                                            replace H := Option.bind_eq_some_iff.mp H
                                            obtain ⟨t207, A970, H⟩ := H
                                            replace H : ((gangwayref03_Fold.f t207).bind fun t208 => (if (t203 == (t206 == t208)) = true then ((gangwaylaw03_fixed.f kj60).bind fun t209 => (some t209)) else (some false))) = some r := H
                                            have A97 := Aside0.mk A970
                                            clear A970
                                            replace H := Option.bind_eq_some_iff.mp H
                                            obtain ⟨t208, A980, H⟩ := H
                                            replace H : (if (t203 == (t206 == t208)) = true then ((gangwaylaw03_fixed.f kj60).bind fun t209 => (some t209)) else (some false)) = some r := H
                                            have A98 := Aside0.mk A980
                                            clear A980
                                            by_cases c99 : (t203 == (t206 == t208)) = true
                                            · rw [if_pos c99] at H
                                              have c99b0 : (t203 == (t206 == t208)) = true := c99
                                              (try (have c99b1 : decide (t203 = (t206 == t208)) = true := by simpa using c99))
                                              (try (have c99b2 : (t203 == (t206 == t208)) = true := by simpa using c99))
                                              clear c99
                                              replace H := Option.bind_eq_some_iff.mp H
                                              obtain ⟨t209, A1000, H⟩ := H
                                              replace H : (some t209) = some r := H
                                              have A100 := Aside0.mk A1000
                                              clear A1000
                                              obtain rfl := Option.some.inj H
                                              try go_wp2
                                              have n0_ := Aside0.mk (below_drew1 HB.out)
                                              clear HB
                                              have HB := n0_
                                              clear n0_
                                              refine start_ (n := 13) (S := fun w' => True) (ds := []) #[false, false, false, false, false, false, false, false, false, false, false, false, false] (by kernel_rfl) rfl rfl trivial (fun hHeld => ?_); refine with_tabW gangwaylaw03_CsumSeals.tab8 gangwaylaw03_CsumSeals.bits8 (fun HT_ HW_ => ?_)
                                              generalize wc.drew = w101 at HB hHeld ⊢
                                              refine pure_ (i := 0) (N := some 64) (v := ?_) (a' := ?_) #[true, false, false, false, false, false, false, false, false, false, false, false, false] rfl rfl (any_of HT_.out (by kernel_rfl)) (fun _ _ _ h => h) (Or.inl ⟨by rfl, ?_⟩) ?_ ?_
                                              rotate_left
                                              · intro w'
                                                go_simp
                                                first | with_reducible rfl | (rw [if_neg (by (try simp only [decide_eq_true_eq, ByteArray.size_append, ByteArray.size_extract, eq_iff_iff, iff_true, iff_false, Nat.not_lt] at *); omega)]; try with_reducible rfl)
                                              rotate_left
                                              · simp only [Act.put, List.setIfInBounds_toArray, List.set_cons_zero, List.set_cons_succ, i64_w, i32_w]
                                                rfl
                                              refine pure_ (i := 1) (N := some 65) (v := ?_) (a' := ?_) #[true, true, false, false, false, false, false, false, false, false, false, false, false] rfl rfl (any_of HT_.out (by kernel_rfl)) (fun _ _ _ h => h) (Or.inl ⟨by rfl, ?_⟩) ?_ ?_
                                              rotate_left
                                              · intro w'
                                                go_simp
                                                first | with_reducible rfl | (rw [if_neg (by (try simp only [decide_eq_true_eq, ByteArray.size_append, ByteArray.size_extract, eq_iff_iff, iff_true, iff_false, Nat.not_lt] at *); omega)]; try with_reducible rfl)
                                              rotate_left
                                              · simp only [Act.put, List.setIfInBounds_toArray, List.set_cons_zero, List.set_cons_succ, i64_w, i32_w]
                                                rfl
                                              refine pure_ (i := 2) (N := some 66) (v := ?_) (a' := ?_) #[true, true, true, false, false, false, false, false, false, false, false, false, false] rfl rfl (any_of HT_.out (by kernel_rfl)) (fun _ _ _ h => h) (Or.inl ⟨by rfl, ?_⟩) ?_ ?_
                                              rotate_left
                                              · intro w'
                                                go_simp
                                                first | with_reducible rfl | (rw [if_neg (by (try simp only [decide_eq_true_eq, ByteArray.size_append, ByteArray.size_extract, eq_iff_iff, iff_true, iff_false, Nat.not_lt] at *); omega)]; try with_reducible rfl)
                                              rotate_left
                                              · simp only [Act.put, List.setIfInBounds_toArray, List.set_cons_zero, List.set_cons_succ, i64_w, i32_w]
                                                rfl
                                              refine pure_ (i := 3) (N := some 67) (v := ?_) (a' := ?_) #[true, true, true, true, false, false, false, false, false, false, false, false, false] rfl rfl (any_of HT_.out (by kernel_rfl)) (fun _ _ _ h => h) (Or.inl ⟨by rfl, ?_⟩) ?_ ?_
                                              rotate_left
                                              · intro w'
                                                go_simp
                                                first | with_reducible rfl | (rw [if_neg (by (try simp only [decide_eq_true_eq, ByteArray.size_append, ByteArray.size_extract, eq_iff_iff, iff_true, iff_false, Nat.not_lt] at *); omega)]; try with_reducible rfl)
                                              rotate_left
                                              · simp only [Act.put, List.setIfInBounds_toArray, List.set_cons_zero, List.set_cons_succ, i64_w, i32_w]
                                                rfl
                                              refine pure_ (i := 7) (N := some 71) (v := ?_) (a' := ?_) #[true, true, true, true, false, false, false, true, false, false, false, false, false] rfl rfl (any_of HT_.out (by kernel_rfl)) (fun _ _ _ h => h) (Or.inl ⟨by rfl, ?_⟩) ?_ ?_
                                              rotate_left
                                              · intro w'
                                                go_simp
                                                first | with_reducible rfl | (rw [if_neg (by (try simp only [decide_eq_true_eq, ByteArray.size_append, ByteArray.size_extract, eq_iff_iff, iff_true, iff_false, Nat.not_lt] at *); omega)]; try with_reducible rfl)
                                              rotate_left
                                              · simp only [Act.put, List.setIfInBounds_toArray, List.set_cons_zero, List.set_cons_succ, i64_w, i32_w]
                                                rfl
                                              refine pure_ (i := 8) (N := some 72) (v := ?_) (a' := ?_) #[true, true, true, true, false, false, false, true, true, false, false, false, false] rfl rfl (any_of HT_.out (by kernel_rfl)) (fun _ _ _ h => h) (Or.inl ⟨by rfl, ?_⟩) ?_ ?_
                                              rotate_left
                                              · intro w'
                                                go_simp
                                                first | with_reducible rfl | (rw [if_neg (by (try simp only [decide_eq_true_eq, ByteArray.size_append, ByteArray.size_extract, eq_iff_iff, iff_true, iff_false, Nat.not_lt] at *); omega)]; try with_reducible rfl)
                                              rotate_left
                                              · simp only [Act.put, List.setIfInBounds_toArray, List.set_cons_zero, List.set_cons_succ, i64_w, i32_w]
                                                rfl
                                              refine pure_ (i := 9) (N := some 73) (v := ?_) (a' := ?_) #[true, true, true, true, false, false, false, true, true, true, false, false, false] rfl rfl (any_of HT_.out (by kernel_rfl)) (fun _ _ _ h => h) (Or.inl ⟨by rfl, ?_⟩) ?_ ?_
                                              rotate_left
                                              · intro w'
                                                go_simp
                                                first | with_reducible rfl | (rw [if_neg (by (try simp only [decide_eq_true_eq, ByteArray.size_append, ByteArray.size_extract, eq_iff_iff, iff_true, iff_false, Nat.not_lt] at *); omega)]; try with_reducible rfl)
                                              rotate_left
                                              · simp only [Act.put, List.setIfInBounds_toArray, List.set_cons_zero, List.set_cons_succ, i64_w, i32_w]
                                                rfl
                                              refine pure_ (i := 10) (N := some 74) (v := ?_) (a' := ?_) #[true, true, true, true, false, false, false, true, true, true, true, false, false] rfl rfl (any_of HT_.out (by kernel_rfl)) (fun _ _ _ h => h) (Or.inl ⟨by rfl, ?_⟩) ?_ ?_
                                              rotate_left
                                              · intro w'
                                                go_simp
                                                first | with_reducible rfl | (rw [if_neg (by (try simp only [decide_eq_true_eq, ByteArray.size_append, ByteArray.size_extract, eq_iff_iff, iff_true, iff_false, Nat.not_lt] at *); omega)]; try with_reducible rfl)
                                              rotate_left
                                              · simp only [Act.put, List.setIfInBounds_toArray, List.set_cons_zero, List.set_cons_succ, i64_w, i32_w]
                                                rfl
                                              refine one_ (i := 4) (N := some 68) #[true, true, true, true, true, false, false, true, true, true, true, false, false] rfl rfl (one_of HT_.out (by kernel_rfl)) (by decide) (fun K hK => ?_)
                                              refine Kd.R_lit_step (Kd.int .u8) _ 5 ?hg (N := 68) ?hd (xs := ([a2] : List Int)) (inner := [.int .u8 a2]) (ok := fun _ => True) (okp := fun _ => True) ?hr ?hp (fun _ hk => hk) trivial (Below.refl _ _) (Nat.le_refl _) (by simp) ?_; (case hd => rfl); (case hg => rfl); (case hr => first | (go_simp; done) | (go_simp; rfl)); (case hp => exact (Reps.one (show Kd.M (Kd.int .u8) _ _ _ a2 [.int .u8 a2] from rfl) (Reps.none _ _)))
                                              intro v198 w102 ho103 hb hg_ hnew_
                                              clear hg_ hnew_
                                              (first | rw [← Ny197.out] at ho103 | (simp only [Int.reduceToNat] at ho103; rw [← Ny197.out] at ho103))
                                              have n0_ := Aside0.mk (Kd.R_lower ho103 (below_size (by repeat (first | (with_reducible first | exact HB.out | apply below_alloc | apply pw_below_drewN | apply below_drew1) | exact HB.out))))
                                              have n1_ := Aside0.mk (below_step (by repeat (first | (with_reducible first | exact HB.out | apply below_alloc | apply pw_below_drewN | apply below_drew1) | exact HB.out)) hb)
                                              clear HB
                                              have HO199 := n0_
                                              have HB := n1_
                                              clear n0_ n1_
                                              clear hb ho103
                                              refine hK.out _ _ trivial (fun hHeld => ?_)
                                              clear hK K
                                              refine norm_ (a' := ?_) ?_ ?_
                                              rotate_left
                                              · show Act.put _ (some 68) _ = _
                                                simp only [Act.put, List.setIfInBounds_toArray, List.set_cons_zero, List.set_cons_succ, i64_w, i32_w]
                                                rfl
                                              refine one_ (i := 5) (N := some 69) #[true, true, true, true, true, true, false, true, true, true, true, false, false] rfl rfl (one_of HT_.out (by kernel_rfl)) (by decide) (fun K hK => ?_)
                                              have hcv104 := own_string (P := Try.prog) Try.underlying36 Try.underlying5 Try.underlying9 (Kd.own_of_R HO199.out)
                                              refine value_ (w1 := ?_) (v := ?_) (by rfl) rfl ?_ ?_
                                              rotate_left 2
                                              · go_simp
                                                constructor
                                                · rfl
                                                · rfl
                                              clear hcv104
                                              refine hK.out _ _ trivial (fun hHeld => ?_)
                                              clear hK K
                                              refine norm_ (a' := ?_) ?_ ?_
                                              rotate_left
                                              · show Act.put _ (some 69) _ = _
                                                simp only [Act.put, List.setIfInBounds_toArray, List.set_cons_zero, List.set_cons_succ, i64_w, i32_w]
                                                rfl
                                              refine pure_ (i := 6) (N := some 70) (v := ?_) (a' := ?_) #[true, true, true, true, true, true, true, true, true, true, true, false, false] rfl rfl (any_of HT_.out (by kernel_rfl)) (fun _ _ _ h => h) (Or.inl ⟨by rfl, ?_⟩) ?_ ?_
                                              rotate_left
                                              · intro w'
                                                go_simp
                                                first | with_reducible rfl | (rw [if_neg (by (try simp only [decide_eq_true_eq, ByteArray.size_append, ByteArray.size_extract, eq_iff_iff, iff_true, iff_false, Nat.not_lt] at *); omega)]; try with_reducible rfl)
                                              rotate_left
                                              · simp only [Act.put, List.setIfInBounds_toArray, List.set_cons_zero, List.set_cons_succ, i64_w, i32_w]
                                                rfl
                                              refine pure_ (i := 11) (N := some 75) (v := ?_) (a' := ?_) #[true, true, true, true, true, true, true, true, true, true, true, true, false] rfl rfl (any_of HT_.out (by kernel_rfl)) (fun _ _ _ h => h) (Or.inl ⟨by rfl, ?_⟩) ?_ ?_
                                              rotate_left
                                              · intro w'
                                                go_simp
                                                first | with_reducible rfl | (rw [if_neg (by (try simp only [decide_eq_true_eq, ByteArray.size_append, ByteArray.size_extract, eq_iff_iff, iff_true, iff_false, Nat.not_lt] at *); omega)]; try with_reducible rfl)
                                              rotate_left
                                              · simp only [Act.put, List.setIfInBounds_toArray, List.set_cons_zero, List.set_cons_succ, i64_w, i32_w]
                                                rfl
                                              refine pure_ (i := 12) (N := some 9) (v := ?_) (a' := ?_) #[true, true, true, true, true, true, true, true, true, true, true, true, true] rfl rfl (any_of HT_.out (by kernel_rfl)) (fun _ _ _ h => h) (Or.inl ⟨by rfl, ?_⟩) ?_ ?_
                                              rotate_left
                                              · intro w'
                                                go_simp
                                                first | with_reducible rfl | (rw [if_neg (by (try simp only [decide_eq_true_eq, ByteArray.size_append, ByteArray.size_extract, eq_iff_iff, iff_true, iff_false, Nat.not_lt] at *); omega)]; try with_reducible rfl)
                                              rotate_left
                                              · simp only [Act.put, List.setIfInBounds_toArray, List.set_cons_zero, List.set_cons_succ, i64_w, i32_w]
                                                rfl
                                              refine done_ (done_of HT_.out (by kernel_rfl)) ?_
                                              try go_wp2
                                              have n0_ := Aside0.mk (Kd.R_drew HO199.out)
                                              have n1_ := Aside0.mk (below_drew1 HB.out)
                                              clear HO199
                                              clear HB
                                              have HO199 := n0_
                                              have HB := n1_
                                              clear n0_ n1_
                                              have p72 : 0 ≤ (x8_60 : Int) := of_decide_eq_true (by first | (with_reducible assumption) | assumption)
                                              have q72 : x8_60 < (x0_8.size : Int) := of_decide_eq_true (by first | (with_reducible assumption) | assumption)
                                              have hx72 := bt_at x0_8 x8_60
                                              replace p72 := eq_true p72
                                              replace q72 := eq_true q72
                                              refine start_ (n := 23) (S := fun w' => True) (ds := []) #[false, false, false, false, false, false, false, false, false, false, false, false, false, false, false, false, false, false, false, false, false, false, false] (by kernel_rfl) rfl rfl trivial (fun hHeld => ?_); refine with_tabW gangwaylaw03_CsumSeals.tab9 gangwaylaw03_CsumSeals.bits9 (fun HT_ HW_ => ?_)
                                              generalize w102.drew = w105 at HO199 HB hHeld ⊢
                                              refine pure_ (i := 0) (N := some 76) (v := ?_) (a' := ?_) #[true, false, false, false, false, false, false, false, false, false, false, false, false, false, false, false, false, false, false, false, false, false, false] rfl rfl (any_of HT_.out (by kernel_rfl)) (fun _ _ _ h => h) (Or.inl ⟨by rfl, ?_⟩) ?_ ?_
                                              rotate_left
                                              · intro w'
                                                go_simp
                                                first | with_reducible rfl | (rw [if_neg (by (try simp only [decide_eq_true_eq, ByteArray.size_append, ByteArray.size_extract, eq_iff_iff, iff_true, iff_false, Nat.not_lt] at *); omega)]; try with_reducible rfl)
                                              rotate_left
                                              · simp only [Act.put, List.setIfInBounds_toArray, List.set_cons_zero, List.set_cons_succ, i64_w, i32_w]
                                                rfl
                                              refine pure_ (i := 1) (N := some 77) (v := ?_) (a' := ?_) #[true, true, false, false, false, false, false, false, false, false, false, false, false, false, false, false, false, false, false, false, false, false, false] rfl rfl (any_of HT_.out (by kernel_rfl)) (fun _ _ _ h => h) (Or.inl ⟨by rfl, ?_⟩) ?_ ?_
                                              rotate_left
                                              · intro w'
                                                go_simp
                                                first | with_reducible rfl | (rw [if_neg (by (try simp only [decide_eq_true_eq, ByteArray.size_append, ByteArray.size_extract, eq_iff_iff, iff_true, iff_false, Nat.not_lt] at *); omega)]; try with_reducible rfl)
                                              rotate_left
                                              · simp only [Act.put, List.setIfInBounds_toArray, List.set_cons_zero, List.set_cons_succ, i64_w, i32_w]
                                                rfl
                                              refine pure_ (i := 4) (N := some 80) (v := ?_) (a' := ?_) #[true, true, false, false, true, false, false, false, false, false, false, false, false, false, false, false, false, false, false, false, false, false, false] rfl rfl (any_of HT_.out (by kernel_rfl)) (fun _ _ _ h => h) (Or.inl ⟨by rfl, ?_⟩) ?_ ?_
                                              rotate_left
                                              · intro w'
                                                go_simp
                                                first | with_reducible rfl | (rw [if_neg (by (try simp only [decide_eq_true_eq, ByteArray.size_append, ByteArray.size_extract, eq_iff_iff, iff_true, iff_false, Nat.not_lt] at *); omega)]; try with_reducible rfl)
                                              rotate_left
                                              · simp only [Act.put, List.setIfInBounds_toArray, List.set_cons_zero, List.set_cons_succ, i64_w, i32_w]
                                                rfl
                                              refine pure_ (i := 5) (N := some 81) (v := ?_) (a' := ?_) #[true, true, false, false, true, true, false, false, false, false, false, false, false, false, false, false, false, false, false, false, false, false, false] rfl rfl (any_of HT_.out (by kernel_rfl)) (fun _ _ _ h => h) (Or.inl ⟨by rfl, ?_⟩) ?_ ?_
                                              rotate_left
                                              · intro w'
                                                go_simp
                                                first | with_reducible rfl | (rw [if_neg (by (try simp only [decide_eq_true_eq, ByteArray.size_append, ByteArray.size_extract, eq_iff_iff, iff_true, iff_false, Nat.not_lt] at *); omega)]; try with_reducible rfl)
                                              rotate_left
                                              · simp only [Act.put, List.setIfInBounds_toArray, List.set_cons_zero, List.set_cons_succ, i64_w, i32_w]
                                                rfl
                                              refine pure_ (i := 6) (N := some 82) (v := ?_) (a' := ?_) #[true, true, false, false, true, true, true, false, false, false, false, false, false, false, false, false, false, false, false, false, false, false, false] rfl rfl (any_of HT_.out (by kernel_rfl)) (fun _ _ _ h => h) (Or.inl ⟨by rfl, ?_⟩) ?_ ?_
                                              rotate_left
                                              · intro w'
                                                go_simp
                                                first | with_reducible rfl | (rw [if_neg (by (try simp only [decide_eq_true_eq, ByteArray.size_append, ByteArray.size_extract, eq_iff_iff, iff_true, iff_false, Nat.not_lt] at *); omega)]; try with_reducible rfl)
                                              rotate_left
                                              · simp only [Act.put, List.setIfInBounds_toArray, List.set_cons_zero, List.set_cons_succ, i64_w, i32_w]
                                                rfl
                                              refine take_ (i := 7) (N := some 83) (v := ?_) (a' := ?_) #[true, true, false, false, true, true, true, true, false, false, false, false, false, false, false, false, false, false, false, false, false, false, false] rfl rfl (take_ofW HT_.out HW_.out (by kernel_rfl)) (fun _ _ _ h => h) (Or.inl ⟨by rfl, ?_⟩) hHeld ?_ ?_
                                              rotate_left
                                              · intro w' _
                                                go_simp
                                                with_reducible rfl
                                              rotate_left
                                              · simp only [Act.put, List.setIfInBounds_toArray, List.set_cons_zero, List.set_cons_succ, i64_w, i32_w]
                                                rfl
                                              refine pure_ (i := 8) (N := some 84) (v := ?_) (a' := ?_) #[true, true, false, false, true, true, true, true, true, false, false, false, false, false, false, false, false, false, false, false, false, false, false] rfl rfl (any_of HT_.out (by kernel_rfl)) (fun _ _ _ h => h) (Or.inl ⟨by rfl, ?_⟩) ?_ ?_
                                              rotate_left
                                              · intro w'
                                                go_simp
                                                first | with_reducible rfl | (rw [if_neg (by (try simp only [decide_eq_true_eq, ByteArray.size_append, ByteArray.size_extract, eq_iff_iff, iff_true, iff_false, Nat.not_lt] at *); omega)]; try with_reducible rfl)
                                              rotate_left
                                              · simp only [Act.put, List.setIfInBounds_toArray, List.set_cons_zero, List.set_cons_succ, i64_w, i32_w]
                                                rfl
                                              refine one_ (i := 2) (N := some 78) #[true, true, true, false, true, true, true, true, true, false, false, false, false, false, false, false, false, false, false, false, false, false, false] rfl rfl (one_of HT_.out (by kernel_rfl)) (by decide) (fun K hK => ?_)
                                              refine Kd.R_lit_step Kd.string _ 9 ?hg (N := 78) ?hd (xs := ([((x0_8.extract 0 (x8_60 : Int).toNat) ++ (strOfNums y197)) ++ (x0_8.extract ((ji66) : Int).toNat x0_8.size), x7_13] : List ByteArray)) (inner := [.string (((x0_8.extract 0 (x8_60 : Int).toNat) ++ (strOfNums y197)) ++ (x0_8.extract ((ji66) : Int).toNat x0_8.size)), .string x7_13]) (ok := fun _ => True) (okp := fun _ => True) ?hr ?hp (fun _ hk => hk) trivial (Below.refl _ _) (Nat.le_refl _) (by simp) ?_; (case hd => rfl); (case hg => rfl); (case hr => first | (go_simp; done) | (go_simp; rfl)); (case hp => exact (Reps.one (show Kd.M Kd.string _ _ _ (((x0_8.extract 0 (x8_60 : Int).toNat) ++ (strOfNums y197)) ++ (x0_8.extract ((ji66) : Int).toNat x0_8.size)) [.string (((x0_8.extract 0 (x8_60 : Int).toNat) ++ (strOfNums y197)) ++ (x0_8.extract ((ji66) : Int).toNat x0_8.size))] from rfl) (Reps.one (show Kd.M Kd.string _ _ _ x7_13 [.string x7_13] from rfl) (Reps.none _ _))))
                                              intro v201 w106 ho107 hb hg_ hnew_
                                              clear hg_ hnew_
                                              (first | rw [← Ny200.out] at ho107 | (simp only [Int.reduceToNat] at ho107; rw [← Ny200.out] at ho107))
                                              have n0_ := Aside0.mk (Kd.R_below (by (with_reducible repeat (first | apply Kd.R_alloc | apply Kd.R_drewN | apply Kd.R_drew)); exact HO199.out) hb)
                                              have n1_ := Aside0.mk (Kd.R_lower ho107 (below_size (by repeat (first | (with_reducible first | exact HB.out | apply below_alloc | apply pw_below_drewN | apply below_drew1) | exact HB.out))))
                                              have n2_ := Aside0.mk (below_step (by repeat (first | (with_reducible first | exact HB.out | apply below_alloc | apply pw_below_drewN | apply below_drew1) | exact HB.out)) hb)
                                              clear HO199
                                              clear HB
                                              have HO199 := n0_
                                              have HO202 := n1_
                                              have HB := n2_
                                              clear n0_ n1_ n2_
                                              clear hb ho107
                                              obtain ⟨Ao108, co108, eo108⟩ := Kd.R_slice HO202.out
                                              (first | subst eo108 | (injection eo108 with f1_ f2_ f3_; have f4_ := f1_.symm; have f5_ := f3_.symm; clear f1_ f2_ f3_; subst f4_; subst f5_))
                                              refine hK.out _ _ trivial (fun hHeld => ?_)
                                              clear hK K
                                              refine norm_ (a' := ?_) ?_ ?_
                                              rotate_left
                                              · show Act.put _ (some 78) _ = _
                                                simp only [Act.put, List.setIfInBounds_toArray, List.set_cons_zero, List.set_cons_succ, i64_w, i32_w]
                                                rfl
                                              refine one_ (i := 3) (N := some 79) #[true, true, true, true, true, true, true, true, true, false, false, false, false, false, false, false, false, false, false, false, false, false, false] rfl rfl (one_of HT_.out (by kernel_rfl)) (by decide) (fun K hK => ?_)
                                              refine goes_ Try.func14 (by kernel_rfl) rfl #[.slice Ao108 y200.length co108] (by rfl) rfl rfl (by (try simp only [List.map_toArray, List.map_cons, List.map_nil]); first | done | rfl | (simp only [List.length_drop, List.length_take]; rfl)) ?_
                                              with_reducible refine (csum_Right.calls kj60 _ _ y200 t203 _ ?side1 ?side2 A70.out).mono ?_
                                              (case side1 => repeat (first | exact (Kd.R_reads' HO202.out).2.2 | (with_reducible refine Kd.C_alloc ?_ _) | (with_reducible refine Kd.C_drewN ?_ _) | (with_reducible refine Kd.C_drew ?_)))
                                              (case side2 => exact (Kd.R_reads' HO202.out).2.1)
                                              rintro e w109 ⟨rfl, hb⟩
                                              refine ⟨_, rfl, ?_⟩
                                              have n0_ := Aside0.mk (Kd.R_below (by (with_reducible repeat (first | apply Kd.R_alloc | apply Kd.R_drewN | apply Kd.R_drew)); exact HO199.out) hb)
                                              have n1_ := Aside0.mk (Kd.R_below (by (with_reducible repeat (first | apply Kd.R_alloc | apply Kd.R_drewN | apply Kd.R_drew)); exact HO202.out) hb)
                                              have n2_ := Aside0.mk (below_step (by repeat (first | (with_reducible first | exact HB.out | apply below_alloc | apply pw_below_drewN | apply below_drew1) | exact HB.out)) hb)
                                              clear HO199
                                              clear HO202
                                              clear HB
                                              have HO199 := n0_
                                              have HO202 := n1_
                                              have HB := n2_
                                              clear n0_ n1_ n2_
                                              (try clear hb)
                                              (try clear hb2)
                                              (try clear hk)
                                              (try clear hi)
                                              refine hK.out _ _ trivial (fun hHeld => ?_)
                                              clear hK K
                                              refine norm_ (a' := ?_) ?_ ?_
                                              rotate_left
                                              · show Act.put _ (some 79) _ = _
                                                simp only [Act.put, List.setIfInBounds_toArray, List.set_cons_zero, List.set_cons_succ, i64_w, i32_w]
                                                rfl
                                              refine pure_ (i := 9) (N := some 85) (v := ?_) (a' := ?_) #[true, true, true, true, true, true, true, true, true, true, false, false, false, false, false, false, false, false, false, false, false, false, false] rfl rfl (any_of HT_.out (by kernel_rfl)) (fun _ _ _ h => h) (Or.inl ⟨by rfl, ?_⟩) ?_ ?_
                                              rotate_left
                                              · intro w'
                                                go_simp
                                                first | with_reducible rfl | (rw [if_neg (by (try simp only [decide_eq_true_eq, ByteArray.size_append, ByteArray.size_extract, eq_iff_iff, iff_true, iff_false, Nat.not_lt] at *); omega)]; try with_reducible rfl)
                                              rotate_left
                                              · simp only [Act.put, List.setIfInBounds_toArray, List.set_cons_zero, List.set_cons_succ, i64_w, i32_w]
                                                rfl
                                              refine pure_ (i := 10) (N := some 86) (v := ?_) (a' := ?_) #[true, true, true, true, true, true, true, true, true, true, true, false, false, false, false, false, false, false, false, false, false, false, false] rfl rfl (any_of HT_.out (by kernel_rfl)) (fun _ _ _ h => h) (Or.inl ⟨by rfl, ?_⟩) ?_ ?_
                                              rotate_left
                                              · intro w'
                                                go_simp
                                                first | with_reducible rfl | (rw [if_neg (by (try simp only [decide_eq_true_eq, ByteArray.size_append, ByteArray.size_extract, eq_iff_iff, iff_true, iff_false, Nat.not_lt] at *); omega)]; try with_reducible rfl)
                                              rotate_left
                                              · simp only [Act.put, List.setIfInBounds_toArray, List.set_cons_zero, List.set_cons_succ, i64_w, i32_w]
                                                rfl
                                              refine pure_ (i := 13) (N := some 89) (v := ?_) (a' := ?_) #[true, true, true, true, true, true, true, true, true, true, true, false, false, true, false, false, false, false, false, false, false, false, false] rfl rfl (any_of HT_.out (by kernel_rfl)) (fun _ _ _ h => h) (Or.inl ⟨by rfl, ?_⟩) ?_ ?_
                                              rotate_left
                                              · intro w'
                                                go_simp
                                                first | with_reducible rfl | (rw [if_neg (by (try simp only [decide_eq_true_eq, ByteArray.size_append, ByteArray.size_extract, eq_iff_iff, iff_true, iff_false, Nat.not_lt] at *); omega)]; try with_reducible rfl)
                                              rotate_left
                                              · simp only [Act.put, List.setIfInBounds_toArray, List.set_cons_zero, List.set_cons_succ, i64_w, i32_w]
                                                rfl
                                              refine one_ (i := 11) (N := some 87) #[true, true, true, true, true, true, true, true, true, true, true, true, false, true, false, false, false, false, false, false, false, false, false] rfl rfl (one_of HT_.out (by kernel_rfl)) (by decide) (fun K hK => ?_)
                                              refine goes_ Try.func21 (by kernel_rfl) rfl #[.string (((x0_8.extract 0 (x8_60 : Int).toNat) ++ (strOfNums y197)) ++ (x0_8.extract ((ji66) : Int).toNat x0_8.size))] (by rfl) rfl rfl (by (try simp only [List.map_toArray, List.map_cons, List.map_nil]); first | done | (simp only [hji66]; rfl) | rfl | (simp only [List.length_drop, List.length_take]; rfl)) ?_
                                              with_reducible refine (gangwayref03_Total.calls kj60 (((x0_8.extract 0 (x8_60 : Int).toNat) ++ (strOfNums y197)) ++ (x0_8.extract ((ji66) : Int).toNat x0_8.size)) t205 _ A95.out).mono ?_
                                              rintro e w' ⟨rfl, ⟨nd, rfl⟩⟩
                                              refine ⟨_, rfl, ?_⟩
                                              refine hK.out _ _ trivial (fun hHeld => ?_)
                                              clear hK K
                                              refine norm_ (a' := ?_) ?_ ?_
                                              rotate_left
                                              · show Act.put _ (some 87) _ = _
                                                simp only [Act.put, List.setIfInBounds_toArray, List.set_cons_zero, List.set_cons_succ, i64_w, i32_w]
                                                rfl
                                              refine one_ (i := 12) (N := some 88) #[true, true, true, true, true, true, true, true, true, true, true, true, true, true, false, false, false, false, false, false, false, false, false] rfl rfl (one_of HT_.out (by kernel_rfl)) (by decide) (fun K hK => ?_)
                                              refine goes_ Try.func20 (by kernel_rfl) rfl #[.int .i64 t205] (by rfl) rfl rfl (by (try simp only [List.map_toArray, List.map_cons, List.map_nil]); first | done | rfl | (simp only [List.length_drop, List.length_take]; rfl)) ?_
                                              with_reducible refine (gangwayref03_Fold.calls t205 t206 _ A96.out).mono ?_
                                              rintro e w' ⟨rfl, ⟨nd, rfl⟩⟩
                                              refine ⟨_, rfl, ?_⟩
                                              refine hK.out _ _ trivial (fun hHeld => ?_)
                                              clear hK K
                                              refine norm_ (a' := ?_) ?_ ?_
                                              rotate_left
                                              · show Act.put _ (some 88) _ = _
                                                simp only [Act.put, List.setIfInBounds_toArray, List.set_cons_zero, List.set_cons_succ, i64_w, i32_w]
                                                rfl
                                              refine one_ (i := 14) (N := some 90) #[true, true, true, true, true, true, true, true, true, true, true, true, true, true, true, false, false, false, false, false, false, false, false] rfl rfl (one_of HT_.out (by kernel_rfl)) (by decide) (fun K hK => ?_)
                                              refine goes_ Try.func21 (by kernel_rfl) rfl #[.string x0_8] (by rfl) rfl rfl (by (try simp only [List.map_toArray, List.map_cons, List.map_nil]); first | done | rfl | (simp only [List.length_drop, List.length_take]; rfl)) ?_
                                              with_reducible refine (gangwayref03_Total.calls kj60 x0_8 t207 _ A97.out).mono ?_
                                              rintro e w' ⟨rfl, ⟨nd, rfl⟩⟩
                                              refine ⟨_, rfl, ?_⟩
                                              refine hK.out _ _ trivial (fun hHeld => ?_)
                                              clear hK K
                                              refine norm_ (a' := ?_) ?_ ?_
                                              rotate_left
                                              · show Act.put _ (some 90) _ = _
                                                simp only [Act.put, List.setIfInBounds_toArray, List.set_cons_zero, List.set_cons_succ, i64_w, i32_w]
                                                rfl
                                              refine one_ (i := 15) (N := some 91) #[true, true, true, true, true, true, true, true, true, true, true, true, true, true, true, true, false, false, false, false, false, false, false] rfl rfl (one_of HT_.out (by kernel_rfl)) (by decide) (fun K hK => ?_)
                                              refine goes_ Try.func20 (by kernel_rfl) rfl #[.int .i64 t207] (by rfl) rfl rfl (by (try simp only [List.map_toArray, List.map_cons, List.map_nil]); first | done | rfl | (simp only [List.length_drop, List.length_take]; rfl)) ?_
                                              with_reducible refine (gangwayref03_Fold.calls t207 t208 _ A98.out).mono ?_
                                              rintro e w' ⟨rfl, ⟨nd, rfl⟩⟩
                                              refine ⟨_, rfl, ?_⟩
                                              refine hK.out _ _ trivial (fun hHeld => ?_)
                                              clear hK K
                                              refine norm_ (a' := ?_) ?_ ?_
                                              rotate_left
                                              · show Act.put _ (some 91) _ = _
                                                simp only [Act.put, List.setIfInBounds_toArray, List.set_cons_zero, List.set_cons_succ, i64_w, i32_w]
                                                rfl
                                              refine pure_ (i := 16) (N := some 92) (v := ?_) (a' := ?_) #[true, true, true, true, true, true, true, true, true, true, true, true, true, true, true, true, true, false, false, false, false, false, false] rfl rfl (any_of HT_.out (by kernel_rfl)) (fun _ _ _ h => h) (Or.inl ⟨by rfl, ?_⟩) ?_ ?_
                                              rotate_left
                                              · intro w'
                                                go_simp
                                                first | with_reducible rfl | (rw [if_neg (by (try simp only [decide_eq_true_eq, ByteArray.size_append, ByteArray.size_extract, eq_iff_iff, iff_true, iff_false, Nat.not_lt] at *); omega)]; try with_reducible rfl)
                                              rotate_left
                                              · simp only [Act.put, List.setIfInBounds_toArray, List.set_cons_zero, List.set_cons_succ, i64_w, i32_w]
                                                rfl
                                              refine pure_ (i := 17) (N := some 93) (v := ?_) (a' := ?_) #[true, true, true, true, true, true, true, true, true, true, true, true, true, true, true, true, true, true, false, false, false, false, false] rfl rfl (any_of HT_.out (by kernel_rfl)) (fun _ _ _ h => h) (Or.inl ⟨by rfl, ?_⟩) ?_ ?_
                                              rotate_left
                                              · intro w'
                                                go_simp
                                                first | with_reducible rfl | (rw [if_neg (by (try simp only [decide_eq_true_eq, ByteArray.size_append, ByteArray.size_extract, eq_iff_iff, iff_true, iff_false, Nat.not_lt] at *); omega)]; try with_reducible rfl)
                                              rotate_left
                                              · simp only [Act.put, List.setIfInBounds_toArray, List.set_cons_zero, List.set_cons_succ, i64_w, i32_w]
                                                rfl
                                              refine pure_ (i := 18) (N := some 94) (v := ?_) (a' := ?_) #[true, true, true, true, true, true, true, true, true, true, true, true, true, true, true, true, true, true, true, false, false, false, false] rfl rfl (any_of HT_.out (by kernel_rfl)) (fun _ _ _ h => h) (Or.inl ⟨by rfl, ?_⟩) ?_ ?_
                                              rotate_left
                                              · intro w'
                                                go_simp
                                                first | with_reducible rfl | (rw [if_neg (by (try simp only [decide_eq_true_eq, ByteArray.size_append, ByteArray.size_extract, eq_iff_iff, iff_true, iff_false, Nat.not_lt] at *); omega)]; try with_reducible rfl)
                                              rotate_left
                                              · simp only [Act.put, List.setIfInBounds_toArray, List.set_cons_zero, List.set_cons_succ, i64_w, i32_w]
                                                rfl
                                              refine pure_ (i := 19) (N := some 95) (v := ?_) (a' := ?_) #[true, true, true, true, true, true, true, true, true, true, true, true, true, true, true, true, true, true, true, true, false, false, false] rfl rfl (any_of HT_.out (by kernel_rfl)) (fun _ _ _ h => h) (Or.inl ⟨by rfl, ?_⟩) ?_ ?_
                                              rotate_left
                                              · intro w'
                                                go_simp
                                                first | with_reducible rfl | (rw [if_neg (by (try simp only [decide_eq_true_eq, ByteArray.size_append, ByteArray.size_extract, eq_iff_iff, iff_true, iff_false, Nat.not_lt] at *); omega)]; try with_reducible rfl)
                                              rotate_left
                                              · simp only [Act.put, List.setIfInBounds_toArray, List.set_cons_zero, List.set_cons_succ, i64_w, i32_w]
                                                rfl
                                              refine one_ (i := 20) (N := some 96) #[true, true, true, true, true, true, true, true, true, true, true, true, true, true, true, true, true, true, true, true, true, false, false] rfl rfl (one_of HT_.out (by kernel_rfl)) (by decide) (fun K hK => ?_)
                                              refine goes_ Try.func11 (by kernel_rfl) rfl #[] (by rfl) rfl rfl (by (try simp only [List.map_toArray, List.map_cons, List.map_nil]); first | done | rfl | (simp only [List.length_drop, List.length_take]; rfl)) ?_
                                              with_reducible refine (gangwaylaw03_fixed.calls kj60  t209 _ A100.out).mono ?_
                                              rintro e w110 ⟨rfl, hb⟩
                                              refine ⟨_, rfl, ?_⟩
                                              have n0_ := Aside0.mk (Kd.R_below (by (with_reducible repeat (first | apply Kd.R_alloc | apply Kd.R_drewN | apply Kd.R_drew)); exact HO199.out) hb)
                                              have n1_ := Aside0.mk (Kd.R_below (by (with_reducible repeat (first | apply Kd.R_alloc | apply Kd.R_drewN | apply Kd.R_drew)); exact HO202.out) hb)
                                              have n2_ := Aside0.mk (below_step (by repeat (first | (with_reducible first | exact HB.out | apply below_alloc | apply pw_below_drewN | apply below_drew1) | exact HB.out)) hb)
                                              clear HO199
                                              clear HO202
                                              clear HB
                                              have HO199 := n0_
                                              have HO202 := n1_
                                              have HB := n2_
                                              clear n0_ n1_ n2_
                                              (try clear hb)
                                              (try clear hb2)
                                              (try clear hk)
                                              (try clear hi)
                                              refine hK.out _ _ trivial (fun hHeld => ?_)
                                              clear hK K
                                              refine norm_ (a' := ?_) ?_ ?_
                                              rotate_left
                                              · show Act.put _ (some 96) _ = _
                                                simp only [Act.put, List.setIfInBounds_toArray, List.set_cons_zero, List.set_cons_succ, i64_w, i32_w]
                                                rfl
                                              refine pure_ (i := 21) (N := some 97) (v := ?_) (a' := ?_) #[true, true, true, true, true, true, true, true, true, true, true, true, true, true, true, true, true, true, true, true, true, true, false] rfl rfl (any_of HT_.out (by kernel_rfl)) (fun _ _ _ h => h) (Or.inl ⟨by rfl, ?_⟩) ?_ ?_
                                              rotate_left
                                              · intro w'
                                                go_simp
                                                first | with_reducible rfl | (rw [if_neg (by (try simp only [decide_eq_true_eq, ByteArray.size_append, ByteArray.size_extract, eq_iff_iff, iff_true, iff_false, Nat.not_lt] at *); omega)]; try with_reducible rfl)
                                              rotate_left
                                              · simp only [Act.put, List.setIfInBounds_toArray, List.set_cons_zero, List.set_cons_succ, i64_w, i32_w]
                                                rfl
                                              refine pure_ (i := 22) (N := some 6) (v := ?_) (a' := ?_) #[true, true, true, true, true, true, true, true, true, true, true, true, true, true, true, true, true, true, true, true, true, true, true] rfl rfl (any_of HT_.out (by kernel_rfl)) (fun _ _ _ h => h) (Or.inl ⟨by rfl, ?_⟩) ?_ ?_
                                              rotate_left
                                              · intro w'
                                                go_simp
                                                first | with_reducible rfl | (rw [if_neg (by (try simp only [decide_eq_true_eq, ByteArray.size_append, ByteArray.size_extract, eq_iff_iff, iff_true, iff_false, Nat.not_lt] at *); omega)]; try with_reducible rfl)
                                              rotate_left
                                              · simp only [Act.put, List.setIfInBounds_toArray, List.set_cons_zero, List.set_cons_succ, i64_w, i32_w]
                                                rfl
                                              refine done_ (done_of HT_.out (by kernel_rfl)) ?_
                                              try go_wp2
                                              go_ret
                                              exact ⟨by first | rfl | (simp [errW_none, errW_some] <;> rfl) | (simp only [← hji66]; first | rfl | (simp [errW_none, errW_some] <;> rfl)) | (simp [*, errW_none, errW_some] <;> rfl), by repeat (first | (with_reducible first | exact HB.out | apply below_alloc | apply pw_below_drewN | apply below_drew1) | exact HB.out)⟩
                                            · rw [if_neg c99] at H
                                              have c99b0 : (t203 == (t206 == t208)) = false := by simpa using c99
                                              (try (have c99b1 : decide (t203 = (t206 == t208)) = false := by simpa using c99))
                                              (try (have c99b2 : (t203 == (t206 == t208)) = false := by simpa using c99))
                                              (try (have c99b3 : ¬ (t203 = (t206 == t208)) := by simpa using c99))
                                              clear c99
                                              obtain rfl := Option.some.inj H
                                              try go_wp2
                                              have n0_ := Aside0.mk (below_drew1 HB.out)
                                              clear HB
                                              have HB := n0_
                                              clear n0_
                                              refine start_ (n := 13) (S := fun w' => True) (ds := []) #[false, false, false, false, false, false, false, false, false, false, false, false, false] (by kernel_rfl) rfl rfl trivial (fun hHeld => ?_); refine with_tabW gangwaylaw03_CsumSeals.tab8 gangwaylaw03_CsumSeals.bits8 (fun HT_ HW_ => ?_)
                                              generalize wc.drew = w111 at HB hHeld ⊢
                                              refine pure_ (i := 0) (N := some 64) (v := ?_) (a' := ?_) #[true, false, false, false, false, false, false, false, false, false, false, false, false] rfl rfl (any_of HT_.out (by kernel_rfl)) (fun _ _ _ h => h) (Or.inl ⟨by rfl, ?_⟩) ?_ ?_
                                              rotate_left
                                              · intro w'
                                                go_simp
                                                first | with_reducible rfl | (rw [if_neg (by (try simp only [decide_eq_true_eq, ByteArray.size_append, ByteArray.size_extract, eq_iff_iff, iff_true, iff_false, Nat.not_lt] at *); omega)]; try with_reducible rfl)
                                              rotate_left
                                              · simp only [Act.put, List.setIfInBounds_toArray, List.set_cons_zero, List.set_cons_succ, i64_w, i32_w]
                                                rfl
                                              refine pure_ (i := 1) (N := some 65) (v := ?_) (a' := ?_) #[true, true, false, false, false, false, false, false, false, false, false, false, false] rfl rfl (any_of HT_.out (by kernel_rfl)) (fun _ _ _ h => h) (Or.inl ⟨by rfl, ?_⟩) ?_ ?_
                                              rotate_left
                                              · intro w'
                                                go_simp
                                                first | with_reducible rfl | (rw [if_neg (by (try simp only [decide_eq_true_eq, ByteArray.size_append, ByteArray.size_extract, eq_iff_iff, iff_true, iff_false, Nat.not_lt] at *); omega)]; try with_reducible rfl)
                                              rotate_left
                                              · simp only [Act.put, List.setIfInBounds_toArray, List.set_cons_zero, List.set_cons_succ, i64_w, i32_w]
                                                rfl
                                              refine pure_ (i := 2) (N := some 66) (v := ?_) (a' := ?_) #[true, true, true, false, false, false, false, false, false, false, false, false, false] rfl rfl (any_of HT_.out (by kernel_rfl)) (fun _ _ _ h => h) (Or.inl ⟨by rfl, ?_⟩) ?_ ?_
                                              rotate_left
                                              · intro w'
                                                go_simp
                                                first | with_reducible rfl | (rw [if_neg (by (try simp only [decide_eq_true_eq, ByteArray.size_append, ByteArray.size_extract, eq_iff_iff, iff_true, iff_false, Nat.not_lt] at *); omega)]; try with_reducible rfl)
                                              rotate_left
                                              · simp only [Act.put, List.setIfInBounds_toArray, List.set_cons_zero, List.set_cons_succ, i64_w, i32_w]
                                                rfl
                                              refine pure_ (i := 3) (N := some 67) (v := ?_) (a' := ?_) #[true, true, true, true, false, false, false, false, false, false, false, false, false] rfl rfl (any_of HT_.out (by kernel_rfl)) (fun _ _ _ h => h) (Or.inl ⟨by rfl, ?_⟩) ?_ ?_
                                              rotate_left
                                              · intro w'
                                                go_simp
                                                first | with_reducible rfl | (rw [if_neg (by (try simp only [decide_eq_true_eq, ByteArray.size_append, ByteArray.size_extract, eq_iff_iff, iff_true, iff_false, Nat.not_lt] at *); omega)]; try with_reducible rfl)
                                              rotate_left
                                              · simp only [Act.put, List.setIfInBounds_toArray, List.set_cons_zero, List.set_cons_succ, i64_w, i32_w]
                                                rfl
                                              refine pure_ (i := 7) (N := some 71) (v := ?_) (a' := ?_) #[true, true, true, true, false, false, false, true, false, false, false, false, false] rfl rfl (any_of HT_.out (by kernel_rfl)) (fun _ _ _ h => h) (Or.inl ⟨by rfl, ?_⟩) ?_ ?_
                                              rotate_left
                                              · intro w'
                                                go_simp
                                                first | with_reducible rfl | (rw [if_neg (by (try simp only [decide_eq_true_eq, ByteArray.size_append, ByteArray.size_extract, eq_iff_iff, iff_true, iff_false, Nat.not_lt] at *); omega)]; try with_reducible rfl)
                                              rotate_left
                                              · simp only [Act.put, List.setIfInBounds_toArray, List.set_cons_zero, List.set_cons_succ, i64_w, i32_w]
                                                rfl
                                              refine pure_ (i := 8) (N := some 72) (v := ?_) (a' := ?_) #[true, true, true, true, false, false, false, true, true, false, false, false, false] rfl rfl (any_of HT_.out (by kernel_rfl)) (fun _ _ _ h => h) (Or.inl ⟨by rfl, ?_⟩) ?_ ?_
                                              rotate_left
                                              · intro w'
                                                go_simp
                                                first | with_reducible rfl | (rw [if_neg (by (try simp only [decide_eq_true_eq, ByteArray.size_append, ByteArray.size_extract, eq_iff_iff, iff_true, iff_false, Nat.not_lt] at *); omega)]; try with_reducible rfl)
                                              rotate_left
                                              · simp only [Act.put, List.setIfInBounds_toArray, List.set_cons_zero, List.set_cons_succ, i64_w, i32_w]
                                                rfl
                                              refine pure_ (i := 9) (N := some 73) (v := ?_) (a' := ?_) #[true, true, true, true, false, false, false, true, true, true, false, false, false] rfl rfl (any_of HT_.out (by kernel_rfl)) (fun _ _ _ h => h) (Or.inl ⟨by rfl, ?_⟩) ?_ ?_
                                              rotate_left
                                              · intro w'
                                                go_simp
                                                first | with_reducible rfl | (rw [if_neg (by (try simp only [decide_eq_true_eq, ByteArray.size_append, ByteArray.size_extract, eq_iff_iff, iff_true, iff_false, Nat.not_lt] at *); omega)]; try with_reducible rfl)
                                              rotate_left
                                              · simp only [Act.put, List.setIfInBounds_toArray, List.set_cons_zero, List.set_cons_succ, i64_w, i32_w]
                                                rfl
                                              refine pure_ (i := 10) (N := some 74) (v := ?_) (a' := ?_) #[true, true, true, true, false, false, false, true, true, true, true, false, false] rfl rfl (any_of HT_.out (by kernel_rfl)) (fun _ _ _ h => h) (Or.inl ⟨by rfl, ?_⟩) ?_ ?_
                                              rotate_left
                                              · intro w'
                                                go_simp
                                                first | with_reducible rfl | (rw [if_neg (by (try simp only [decide_eq_true_eq, ByteArray.size_append, ByteArray.size_extract, eq_iff_iff, iff_true, iff_false, Nat.not_lt] at *); omega)]; try with_reducible rfl)
                                              rotate_left
                                              · simp only [Act.put, List.setIfInBounds_toArray, List.set_cons_zero, List.set_cons_succ, i64_w, i32_w]
                                                rfl
                                              refine one_ (i := 4) (N := some 68) #[true, true, true, true, true, false, false, true, true, true, true, false, false] rfl rfl (one_of HT_.out (by kernel_rfl)) (by decide) (fun K hK => ?_)
                                              refine Kd.R_lit_step (Kd.int .u8) _ 5 ?hg (N := 68) ?hd (xs := ([a2] : List Int)) (inner := [.int .u8 a2]) (ok := fun _ => True) (okp := fun _ => True) ?hr ?hp (fun _ hk => hk) trivial (Below.refl _ _) (Nat.le_refl _) (by simp) ?_; (case hd => rfl); (case hg => rfl); (case hr => first | (go_simp; done) | (go_simp; rfl)); (case hp => exact (Reps.one (show Kd.M (Kd.int .u8) _ _ _ a2 [.int .u8 a2] from rfl) (Reps.none _ _)))
                                              intro v198 w112 ho113 hb hg_ hnew_
                                              clear hg_ hnew_
                                              (first | rw [← Ny197.out] at ho113 | (simp only [Int.reduceToNat] at ho113; rw [← Ny197.out] at ho113))
                                              have n0_ := Aside0.mk (Kd.R_lower ho113 (below_size (by repeat (first | (with_reducible first | exact HB.out | apply below_alloc | apply pw_below_drewN | apply below_drew1) | exact HB.out))))
                                              have n1_ := Aside0.mk (below_step (by repeat (first | (with_reducible first | exact HB.out | apply below_alloc | apply pw_below_drewN | apply below_drew1) | exact HB.out)) hb)
                                              clear HB
                                              have HO199 := n0_
                                              have HB := n1_
                                              clear n0_ n1_
                                              clear hb ho113
                                              refine hK.out _ _ trivial (fun hHeld => ?_)
                                              clear hK K
                                              refine norm_ (a' := ?_) ?_ ?_
                                              rotate_left
                                              · show Act.put _ (some 68) _ = _
                                                simp only [Act.put, List.setIfInBounds_toArray, List.set_cons_zero, List.set_cons_succ, i64_w, i32_w]
                                                rfl
                                              refine one_ (i := 5) (N := some 69) #[true, true, true, true, true, true, false, true, true, true, true, false, false] rfl rfl (one_of HT_.out (by kernel_rfl)) (by decide) (fun K hK => ?_)
                                              have hcv114 := own_string (P := Try.prog) Try.underlying36 Try.underlying5 Try.underlying9 (Kd.own_of_R HO199.out)
                                              refine value_ (w1 := ?_) (v := ?_) (by rfl) rfl ?_ ?_
                                              rotate_left 2
                                              · go_simp
                                                constructor
                                                · rfl
                                                · rfl
                                              clear hcv114
                                              refine hK.out _ _ trivial (fun hHeld => ?_)
                                              clear hK K
                                              refine norm_ (a' := ?_) ?_ ?_
                                              rotate_left
                                              · show Act.put _ (some 69) _ = _
                                                simp only [Act.put, List.setIfInBounds_toArray, List.set_cons_zero, List.set_cons_succ, i64_w, i32_w]
                                                rfl
                                              refine pure_ (i := 6) (N := some 70) (v := ?_) (a' := ?_) #[true, true, true, true, true, true, true, true, true, true, true, false, false] rfl rfl (any_of HT_.out (by kernel_rfl)) (fun _ _ _ h => h) (Or.inl ⟨by rfl, ?_⟩) ?_ ?_
                                              rotate_left
                                              · intro w'
                                                go_simp
                                                first | with_reducible rfl | (rw [if_neg (by (try simp only [decide_eq_true_eq, ByteArray.size_append, ByteArray.size_extract, eq_iff_iff, iff_true, iff_false, Nat.not_lt] at *); omega)]; try with_reducible rfl)
                                              rotate_left
                                              · simp only [Act.put, List.setIfInBounds_toArray, List.set_cons_zero, List.set_cons_succ, i64_w, i32_w]
                                                rfl
                                              refine pure_ (i := 11) (N := some 75) (v := ?_) (a' := ?_) #[true, true, true, true, true, true, true, true, true, true, true, true, false] rfl rfl (any_of HT_.out (by kernel_rfl)) (fun _ _ _ h => h) (Or.inl ⟨by rfl, ?_⟩) ?_ ?_
                                              rotate_left
                                              · intro w'
                                                go_simp
                                                first | with_reducible rfl | (rw [if_neg (by (try simp only [decide_eq_true_eq, ByteArray.size_append, ByteArray.size_extract, eq_iff_iff, iff_true, iff_false, Nat.not_lt] at *); omega)]; try with_reducible rfl)
                                              rotate_left
                                              · simp only [Act.put, List.setIfInBounds_toArray, List.set_cons_zero, List.set_cons_succ, i64_w, i32_w]
                                                rfl
                                              refine pure_ (i := 12) (N := some 9) (v := ?_) (a' := ?_) #[true, true, true, true, true, true, true, true, true, true, true, true, true] rfl rfl (any_of HT_.out (by kernel_rfl)) (fun _ _ _ h => h) (Or.inl ⟨by rfl, ?_⟩) ?_ ?_
                                              rotate_left
                                              · intro w'
                                                go_simp
                                                first | with_reducible rfl | (rw [if_neg (by (try simp only [decide_eq_true_eq, ByteArray.size_append, ByteArray.size_extract, eq_iff_iff, iff_true, iff_false, Nat.not_lt] at *); omega)]; try with_reducible rfl)
                                              rotate_left
                                              · simp only [Act.put, List.setIfInBounds_toArray, List.set_cons_zero, List.set_cons_succ, i64_w, i32_w]
                                                rfl
                                              refine done_ (done_of HT_.out (by kernel_rfl)) ?_
                                              try go_wp2
                                              have n0_ := Aside0.mk (Kd.R_drew HO199.out)
                                              have n1_ := Aside0.mk (below_drew1 HB.out)
                                              clear HO199
                                              clear HB
                                              have HO199 := n0_
                                              have HB := n1_
                                              clear n0_ n1_
                                              have p72 : 0 ≤ (x8_60 : Int) := of_decide_eq_true (by first | (with_reducible assumption) | assumption)
                                              have q72 : x8_60 < (x0_8.size : Int) := of_decide_eq_true (by first | (with_reducible assumption) | assumption)
                                              have hx72 := bt_at x0_8 x8_60
                                              replace p72 := eq_true p72
                                              replace q72 := eq_true q72
                                              refine start_ (n := 23) (S := fun w' => True) (ds := []) #[false, false, false, false, false, false, false, false, false, false, false, false, false, false, false, false, false, false, false, false, false, false, false] (by kernel_rfl) rfl rfl trivial (fun hHeld => ?_); refine with_tabW gangwaylaw03_CsumSeals.tab9 gangwaylaw03_CsumSeals.bits9 (fun HT_ HW_ => ?_)
                                              generalize w112.drew = w115 at HO199 HB hHeld ⊢
                                              refine pure_ (i := 0) (N := some 76) (v := ?_) (a' := ?_) #[true, false, false, false, false, false, false, false, false, false, false, false, false, false, false, false, false, false, false, false, false, false, false] rfl rfl (any_of HT_.out (by kernel_rfl)) (fun _ _ _ h => h) (Or.inl ⟨by rfl, ?_⟩) ?_ ?_
                                              rotate_left
                                              · intro w'
                                                go_simp
                                                first | with_reducible rfl | (rw [if_neg (by (try simp only [decide_eq_true_eq, ByteArray.size_append, ByteArray.size_extract, eq_iff_iff, iff_true, iff_false, Nat.not_lt] at *); omega)]; try with_reducible rfl)
                                              rotate_left
                                              · simp only [Act.put, List.setIfInBounds_toArray, List.set_cons_zero, List.set_cons_succ, i64_w, i32_w]
                                                rfl
                                              refine pure_ (i := 1) (N := some 77) (v := ?_) (a' := ?_) #[true, true, false, false, false, false, false, false, false, false, false, false, false, false, false, false, false, false, false, false, false, false, false] rfl rfl (any_of HT_.out (by kernel_rfl)) (fun _ _ _ h => h) (Or.inl ⟨by rfl, ?_⟩) ?_ ?_
                                              rotate_left
                                              · intro w'
                                                go_simp
                                                first | with_reducible rfl | (rw [if_neg (by (try simp only [decide_eq_true_eq, ByteArray.size_append, ByteArray.size_extract, eq_iff_iff, iff_true, iff_false, Nat.not_lt] at *); omega)]; try with_reducible rfl)
                                              rotate_left
                                              · simp only [Act.put, List.setIfInBounds_toArray, List.set_cons_zero, List.set_cons_succ, i64_w, i32_w]
                                                rfl
                                              refine pure_ (i := 4) (N := some 80) (v := ?_) (a' := ?_) #[true, true, false, false, true, false, false, false, false, false, false, false, false, false, false, false, false, false, false, false, false, false, false] rfl rfl (any_of HT_.out (by kernel_rfl)) (fun _ _ _ h => h) (Or.inl ⟨by rfl, ?_⟩) ?_ ?_
                                              rotate_left
                                              · intro w'
                                                go_simp
                                                first | with_reducible rfl | (rw [if_neg (by (try simp only [decide_eq_true_eq, ByteArray.size_append, ByteArray.size_extract, eq_iff_iff, iff_true, iff_false, Nat.not_lt] at *); omega)]; try with_reducible rfl)
                                              rotate_left
                                              · simp only [Act.put, List.setIfInBounds_toArray, List.set_cons_zero, List.set_cons_succ, i64_w, i32_w]
                                                rfl
                                              refine pure_ (i := 5) (N := some 81) (v := ?_) (a' := ?_) #[true, true, false, false, true, true, false, false, false, false, false, false, false, false, false, false, false, false, false, false, false, false, false] rfl rfl (any_of HT_.out (by kernel_rfl)) (fun _ _ _ h => h) (Or.inl ⟨by rfl, ?_⟩) ?_ ?_
                                              rotate_left
                                              · intro w'
                                                go_simp
                                                first | with_reducible rfl | (rw [if_neg (by (try simp only [decide_eq_true_eq, ByteArray.size_append, ByteArray.size_extract, eq_iff_iff, iff_true, iff_false, Nat.not_lt] at *); omega)]; try with_reducible rfl)
                                              rotate_left
                                              · simp only [Act.put, List.setIfInBounds_toArray, List.set_cons_zero, List.set_cons_succ, i64_w, i32_w]
                                                rfl
                                              refine pure_ (i := 6) (N := some 82) (v := ?_) (a' := ?_) #[true, true, false, false, true, true, true, false, false, false, false, false, false, false, false, false, false, false, false, false, false, false, false] rfl rfl (any_of HT_.out (by kernel_rfl)) (fun _ _ _ h => h) (Or.inl ⟨by rfl, ?_⟩) ?_ ?_
                                              rotate_left
                                              · intro w'
                                                go_simp
                                                first | with_reducible rfl | (rw [if_neg (by (try simp only [decide_eq_true_eq, ByteArray.size_append, ByteArray.size_extract, eq_iff_iff, iff_true, iff_false, Nat.not_lt] at *); omega)]; try with_reducible rfl)
                                              rotate_left
                                              · simp only [Act.put, List.setIfInBounds_toArray, List.set_cons_zero, List.set_cons_succ, i64_w, i32_w]
                                                rfl
                                              refine take_ (i := 7) (N := some 83) (v := ?_) (a' := ?_) #[true, true, false, false, true, true, true, true, false, false, false, false, false, false, false, false, false, false, false, false, false, false, false] rfl rfl (take_ofW HT_.out HW_.out (by kernel_rfl)) (fun _ _ _ h => h) (Or.inl ⟨by rfl, ?_⟩) hHeld ?_ ?_
                                              rotate_left
                                              · intro w' _
                                                go_simp
                                                with_reducible rfl
                                              rotate_left
                                              · simp only [Act.put, List.setIfInBounds_toArray, List.set_cons_zero, List.set_cons_succ, i64_w, i32_w]
                                                rfl
                                              refine pure_ (i := 8) (N := some 84) (v := ?_) (a' := ?_) #[true, true, false, false, true, true, true, true, true, false, false, false, false, false, false, false, false, false, false, false, false, false, false] rfl rfl (any_of HT_.out (by kernel_rfl)) (fun _ _ _ h => h) (Or.inl ⟨by rfl, ?_⟩) ?_ ?_
                                              rotate_left
                                              · intro w'
                                                go_simp
                                                first | with_reducible rfl | (rw [if_neg (by (try simp only [decide_eq_true_eq, ByteArray.size_append, ByteArray.size_extract, eq_iff_iff, iff_true, iff_false, Nat.not_lt] at *); omega)]; try with_reducible rfl)
                                              rotate_left
                                              · simp only [Act.put, List.setIfInBounds_toArray, List.set_cons_zero, List.set_cons_succ, i64_w, i32_w]
                                                rfl
                                              refine one_ (i := 2) (N := some 78) #[true, true, true, false, true, true, true, true, true, false, false, false, false, false, false, false, false, false, false, false, false, false, false] rfl rfl (one_of HT_.out (by kernel_rfl)) (by decide) (fun K hK => ?_)
                                              refine Kd.R_lit_step Kd.string _ 9 ?hg (N := 78) ?hd (xs := ([((x0_8.extract 0 (x8_60 : Int).toNat) ++ (strOfNums y197)) ++ (x0_8.extract ((ji66) : Int).toNat x0_8.size), x7_13] : List ByteArray)) (inner := [.string (((x0_8.extract 0 (x8_60 : Int).toNat) ++ (strOfNums y197)) ++ (x0_8.extract ((ji66) : Int).toNat x0_8.size)), .string x7_13]) (ok := fun _ => True) (okp := fun _ => True) ?hr ?hp (fun _ hk => hk) trivial (Below.refl _ _) (Nat.le_refl _) (by simp) ?_; (case hd => rfl); (case hg => rfl); (case hr => first | (go_simp; done) | (go_simp; rfl)); (case hp => exact (Reps.one (show Kd.M Kd.string _ _ _ (((x0_8.extract 0 (x8_60 : Int).toNat) ++ (strOfNums y197)) ++ (x0_8.extract ((ji66) : Int).toNat x0_8.size)) [.string (((x0_8.extract 0 (x8_60 : Int).toNat) ++ (strOfNums y197)) ++ (x0_8.extract ((ji66) : Int).toNat x0_8.size))] from rfl) (Reps.one (show Kd.M Kd.string _ _ _ x7_13 [.string x7_13] from rfl) (Reps.none _ _))))
                                              intro v201 w116 ho117 hb hg_ hnew_
                                              clear hg_ hnew_
                                              (first | rw [← Ny200.out] at ho117 | (simp only [Int.reduceToNat] at ho117; rw [← Ny200.out] at ho117))
                                              have n0_ := Aside0.mk (Kd.R_below (by (with_reducible repeat (first | apply Kd.R_alloc | apply Kd.R_drewN | apply Kd.R_drew)); exact HO199.out) hb)
                                              have n1_ := Aside0.mk (Kd.R_lower ho117 (below_size (by repeat (first | (with_reducible first | exact HB.out | apply below_alloc | apply pw_below_drewN | apply below_drew1) | exact HB.out))))
                                              have n2_ := Aside0.mk (below_step (by repeat (first | (with_reducible first | exact HB.out | apply below_alloc | apply pw_below_drewN | apply below_drew1) | exact HB.out)) hb)
                                              clear HO199
                                              clear HB
                                              have HO199 := n0_
                                              have HO202 := n1_
                                              have HB := n2_
                                              clear n0_ n1_ n2_
                                              clear hb ho117
                                              obtain ⟨Ao118, co118, eo118⟩ := Kd.R_slice HO202.out
                                              (first | subst eo118 | (injection eo118 with f1_ f2_ f3_; have f4_ := f1_.symm; have f5_ := f3_.symm; clear f1_ f2_ f3_; subst f4_; subst f5_))
                                              refine hK.out _ _ trivial (fun hHeld => ?_)
                                              clear hK K
                                              refine norm_ (a' := ?_) ?_ ?_
                                              rotate_left
                                              · show Act.put _ (some 78) _ = _
                                                simp only [Act.put, List.setIfInBounds_toArray, List.set_cons_zero, List.set_cons_succ, i64_w, i32_w]
                                                rfl
                                              refine one_ (i := 3) (N := some 79) #[true, true, true, true, true, true, true, true, true, false, false, false, false, false, false, false, false, false, false, false, false, false, false] rfl rfl (one_of HT_.out (by kernel_rfl)) (by decide) (fun K hK => ?_)
                                              refine goes_ Try.func14 (by kernel_rfl) rfl #[.slice Ao118 y200.length co118] (by rfl) rfl rfl (by (try simp only [List.map_toArray, List.map_cons, List.map_nil]); first | done | rfl | (simp only [List.length_drop, List.length_take]; rfl)) ?_
                                              with_reducible refine (csum_Right.calls kj60 _ _ y200 t203 _ ?side1 ?side2 A70.out).mono ?_
                                              (case side1 => repeat (first | exact (Kd.R_reads' HO202.out).2.2 | (with_reducible refine Kd.C_alloc ?_ _) | (with_reducible refine Kd.C_drewN ?_ _) | (with_reducible refine Kd.C_drew ?_)))
                                              (case side2 => exact (Kd.R_reads' HO202.out).2.1)
                                              rintro e w119 ⟨rfl, hb⟩
                                              refine ⟨_, rfl, ?_⟩
                                              have n0_ := Aside0.mk (Kd.R_below (by (with_reducible repeat (first | apply Kd.R_alloc | apply Kd.R_drewN | apply Kd.R_drew)); exact HO199.out) hb)
                                              have n1_ := Aside0.mk (Kd.R_below (by (with_reducible repeat (first | apply Kd.R_alloc | apply Kd.R_drewN | apply Kd.R_drew)); exact HO202.out) hb)
                                              have n2_ := Aside0.mk (below_step (by repeat (first | (with_reducible first | exact HB.out | apply below_alloc | apply pw_below_drewN | apply below_drew1) | exact HB.out)) hb)
                                              clear HO199
                                              clear HO202
                                              clear HB
                                              have HO199 := n0_
                                              have HO202 := n1_
                                              have HB := n2_
                                              clear n0_ n1_ n2_
                                              (try clear hb)
                                              (try clear hb2)
                                              (try clear hk)
                                              (try clear hi)
                                              refine hK.out _ _ trivial (fun hHeld => ?_)
                                              clear hK K
                                              refine norm_ (a' := ?_) ?_ ?_
                                              rotate_left
                                              · show Act.put _ (some 79) _ = _
                                                simp only [Act.put, List.setIfInBounds_toArray, List.set_cons_zero, List.set_cons_succ, i64_w, i32_w]
                                                rfl
                                              refine pure_ (i := 9) (N := some 85) (v := ?_) (a' := ?_) #[true, true, true, true, true, true, true, true, true, true, false, false, false, false, false, false, false, false, false, false, false, false, false] rfl rfl (any_of HT_.out (by kernel_rfl)) (fun _ _ _ h => h) (Or.inl ⟨by rfl, ?_⟩) ?_ ?_
                                              rotate_left
                                              · intro w'
                                                go_simp
                                                first | with_reducible rfl | (rw [if_neg (by (try simp only [decide_eq_true_eq, ByteArray.size_append, ByteArray.size_extract, eq_iff_iff, iff_true, iff_false, Nat.not_lt] at *); omega)]; try with_reducible rfl)
                                              rotate_left
                                              · simp only [Act.put, List.setIfInBounds_toArray, List.set_cons_zero, List.set_cons_succ, i64_w, i32_w]
                                                rfl
                                              refine pure_ (i := 10) (N := some 86) (v := ?_) (a' := ?_) #[true, true, true, true, true, true, true, true, true, true, true, false, false, false, false, false, false, false, false, false, false, false, false] rfl rfl (any_of HT_.out (by kernel_rfl)) (fun _ _ _ h => h) (Or.inl ⟨by rfl, ?_⟩) ?_ ?_
                                              rotate_left
                                              · intro w'
                                                go_simp
                                                first | with_reducible rfl | (rw [if_neg (by (try simp only [decide_eq_true_eq, ByteArray.size_append, ByteArray.size_extract, eq_iff_iff, iff_true, iff_false, Nat.not_lt] at *); omega)]; try with_reducible rfl)
                                              rotate_left
                                              · simp only [Act.put, List.setIfInBounds_toArray, List.set_cons_zero, List.set_cons_succ, i64_w, i32_w]
                                                rfl
                                              refine pure_ (i := 13) (N := some 89) (v := ?_) (a' := ?_) #[true, true, true, true, true, true, true, true, true, true, true, false, false, true, false, false, false, false, false, false, false, false, false] rfl rfl (any_of HT_.out (by kernel_rfl)) (fun _ _ _ h => h) (Or.inl ⟨by rfl, ?_⟩) ?_ ?_
                                              rotate_left
                                              · intro w'
                                                go_simp
                                                first | with_reducible rfl | (rw [if_neg (by (try simp only [decide_eq_true_eq, ByteArray.size_append, ByteArray.size_extract, eq_iff_iff, iff_true, iff_false, Nat.not_lt] at *); omega)]; try with_reducible rfl)
                                              rotate_left
                                              · simp only [Act.put, List.setIfInBounds_toArray, List.set_cons_zero, List.set_cons_succ, i64_w, i32_w]
                                                rfl
                                              refine one_ (i := 11) (N := some 87) #[true, true, true, true, true, true, true, true, true, true, true, true, false, true, false, false, false, false, false, false, false, false, false] rfl rfl (one_of HT_.out (by kernel_rfl)) (by decide) (fun K hK => ?_)
                                              refine goes_ Try.func21 (by kernel_rfl) rfl #[.string (((x0_8.extract 0 (x8_60 : Int).toNat) ++ (strOfNums y197)) ++ (x0_8.extract ((ji66) : Int).toNat x0_8.size))] (by rfl) rfl rfl (by (try simp only [List.map_toArray, List.map_cons, List.map_nil]); first | done | (simp only [hji66]; rfl) | rfl | (simp only [List.length_drop, List.length_take]; rfl)) ?_
                                              with_reducible refine (gangwayref03_Total.calls kj60 (((x0_8.extract 0 (x8_60 : Int).toNat) ++ (strOfNums y197)) ++ (x0_8.extract ((ji66) : Int).toNat x0_8.size)) t205 _ A95.out).mono ?_
                                              rintro e w' ⟨rfl, ⟨nd, rfl⟩⟩
                                              refine ⟨_, rfl, ?_⟩
                                              refine hK.out _ _ trivial (fun hHeld => ?_)
                                              clear hK K
                                              refine norm_ (a' := ?_) ?_ ?_
                                              rotate_left
                                              · show Act.put _ (some 87) _ = _
                                                simp only [Act.put, List.setIfInBounds_toArray, List.set_cons_zero, List.set_cons_succ, i64_w, i32_w]
                                                rfl
                                              refine one_ (i := 12) (N := some 88) #[true, true, true, true, true, true, true, true, true, true, true, true, true, true, false, false, false, false, false, false, false, false, false] rfl rfl (one_of HT_.out (by kernel_rfl)) (by decide) (fun K hK => ?_)
                                              refine goes_ Try.func20 (by kernel_rfl) rfl #[.int .i64 t205] (by rfl) rfl rfl (by (try simp only [List.map_toArray, List.map_cons, List.map_nil]); first | done | rfl | (simp only [List.length_drop, List.length_take]; rfl)) ?_
                                              with_reducible refine (gangwayref03_Fold.calls t205 t206 _ A96.out).mono ?_
                                              rintro e w' ⟨rfl, ⟨nd, rfl⟩⟩
                                              refine ⟨_, rfl, ?_⟩
                                              refine hK.out _ _ trivial (fun hHeld => ?_)
                                              clear hK K
                                              refine norm_ (a' := ?_) ?_ ?_
                                              rotate_left
                                              · show Act.put _ (some 88) _ = _
                                                simp only [Act.put, List.setIfInBounds_toArray, List.set_cons_zero, List.set_cons_succ, i64_w, i32_w]
                                                rfl
                                              refine one_ (i := 14) (N := some 90) #[true, true, true, true, true, true, true, true, true, true, true, true, true, true, true, false, false, false, false, false, false, false, false] rfl rfl (one_of HT_.out (by kernel_rfl)) (by decide) (fun K hK => ?_)
                                              refine goes_ Try.func21 (by kernel_rfl) rfl #[.string x0_8] (by rfl) rfl rfl (by (try simp only [List.map_toArray, List.map_cons, List.map_nil]); first | done | rfl | (simp only [List.length_drop, List.length_take]; rfl)) ?_
                                              with_reducible refine (gangwayref03_Total.calls kj60 x0_8 t207 _ A97.out).mono ?_
                                              rintro e w' ⟨rfl, ⟨nd, rfl⟩⟩
                                              refine ⟨_, rfl, ?_⟩
                                              refine hK.out _ _ trivial (fun hHeld => ?_)
                                              clear hK K
                                              refine norm_ (a' := ?_) ?_ ?_
                                              rotate_left
                                              · show Act.put _ (some 90) _ = _
                                                simp only [Act.put, List.setIfInBounds_toArray, List.set_cons_zero, List.set_cons_succ, i64_w, i32_w]
                                                rfl
                                              refine one_ (i := 15) (N := some 91) #[true, true, true, true, true, true, true, true, true, true, true, true, true, true, true, true, false, false, false, false, false, false, false] rfl rfl (one_of HT_.out (by kernel_rfl)) (by decide) (fun K hK => ?_)
                                              refine goes_ Try.func20 (by kernel_rfl) rfl #[.int .i64 t207] (by rfl) rfl rfl (by (try simp only [List.map_toArray, List.map_cons, List.map_nil]); first | done | rfl | (simp only [List.length_drop, List.length_take]; rfl)) ?_
                                              with_reducible refine (gangwayref03_Fold.calls t207 t208 _ A98.out).mono ?_
                                              rintro e w' ⟨rfl, ⟨nd, rfl⟩⟩
                                              refine ⟨_, rfl, ?_⟩
                                              refine hK.out _ _ trivial (fun hHeld => ?_)
                                              clear hK K
                                              refine norm_ (a' := ?_) ?_ ?_
                                              rotate_left
                                              · show Act.put _ (some 91) _ = _
                                                simp only [Act.put, List.setIfInBounds_toArray, List.set_cons_zero, List.set_cons_succ, i64_w, i32_w]
                                                rfl
                                              refine pure_ (i := 16) (N := some 92) (v := ?_) (a' := ?_) #[true, true, true, true, true, true, true, true, true, true, true, true, true, true, true, true, true, false, false, false, false, false, false] rfl rfl (any_of HT_.out (by kernel_rfl)) (fun _ _ _ h => h) (Or.inl ⟨by rfl, ?_⟩) ?_ ?_
                                              rotate_left
                                              · intro w'
                                                go_simp
                                                first | with_reducible rfl | (rw [if_neg (by (try simp only [decide_eq_true_eq, ByteArray.size_append, ByteArray.size_extract, eq_iff_iff, iff_true, iff_false, Nat.not_lt] at *); omega)]; try with_reducible rfl)
                                              rotate_left
                                              · simp only [Act.put, List.setIfInBounds_toArray, List.set_cons_zero, List.set_cons_succ, i64_w, i32_w]
                                                rfl
                                              refine pure_ (i := 17) (N := some 93) (v := ?_) (a' := ?_) #[true, true, true, true, true, true, true, true, true, true, true, true, true, true, true, true, true, true, false, false, false, false, false] rfl rfl (any_of HT_.out (by kernel_rfl)) (fun _ _ _ h => h) (Or.inl ⟨by rfl, ?_⟩) ?_ ?_
                                              rotate_left
                                              · intro w'
                                                go_simp
                                                first | with_reducible rfl | (rw [if_neg (by (try simp only [decide_eq_true_eq, ByteArray.size_append, ByteArray.size_extract, eq_iff_iff, iff_true, iff_false, Nat.not_lt] at *); omega)]; try with_reducible rfl)
                                              rotate_left
                                              · simp only [Act.put, List.setIfInBounds_toArray, List.set_cons_zero, List.set_cons_succ, i64_w, i32_w]
                                                rfl
                                              refine pure_ (i := 18) (N := some 94) (v := ?_) (a' := ?_) #[true, true, true, true, true, true, true, true, true, true, true, true, true, true, true, true, true, true, true, false, false, false, false] rfl rfl (any_of HT_.out (by kernel_rfl)) (fun _ _ _ h => h) (Or.inl ⟨by rfl, ?_⟩) ?_ ?_
                                              rotate_left
                                              · intro w'
                                                go_simp
                                                first | with_reducible rfl | (rw [if_neg (by (try simp only [decide_eq_true_eq, ByteArray.size_append, ByteArray.size_extract, eq_iff_iff, iff_true, iff_false, Nat.not_lt] at *); omega)]; try with_reducible rfl)
                                              rotate_left
                                              · simp only [Act.put, List.setIfInBounds_toArray, List.set_cons_zero, List.set_cons_succ, i64_w, i32_w]
                                                rfl
                                              refine pure_ (i := 19) (N := some 95) (v := ?_) (a' := ?_) #[true, true, true, true, true, true, true, true, true, true, true, true, true, true, true, true, true, true, true, true, false, false, false] rfl rfl (any_of HT_.out (by kernel_rfl)) (fun _ _ _ h => h) (Or.inl ⟨by rfl, ?_⟩) ?_ ?_
                                              rotate_left
                                              · intro w'
                                                go_simp
                                                first | with_reducible rfl | (rw [if_neg (by (try simp only [decide_eq_true_eq, ByteArray.size_append, ByteArray.size_extract, eq_iff_iff, iff_true, iff_false, Nat.not_lt] at *); omega)]; try with_reducible rfl)
                                              rotate_left
                                              · simp only [Act.put, List.setIfInBounds_toArray, List.set_cons_zero, List.set_cons_succ, i64_w, i32_w]
                                                rfl
                                              refine pure_ (i := 20) (N := some 96) (v := undef) (a' := ?_) #[true, true, true, true, true, true, true, true, true, true, true, true, true, true, true, true, true, true, true, true, true, false, false] rfl rfl (any_of HT_.out (by kernel_rfl)) (fun _ _ _ h => h) (Or.inr ⟨by rfl, rfl⟩) ?_ ?_
                                              rotate_left
                                              · simp only [Act.put, List.setIfInBounds_toArray, List.set_cons_zero, List.set_cons_succ, i64_w, i32_w]
                                                rfl
                                              refine pure_ (i := 21) (N := some 97) (v := ?_) (a' := ?_) #[true, true, true, true, true, true, true, true, true, true, true, true, true, true, true, true, true, true, true, true, true, true, false] rfl rfl (any_of HT_.out (by kernel_rfl)) (fun _ _ _ h => h) (Or.inl ⟨by rfl, ?_⟩) ?_ ?_
                                              rotate_left
                                              · intro w'
                                                go_simp
                                                first | with_reducible rfl | (rw [if_neg (by (try simp only [decide_eq_true_eq, ByteArray.size_append, ByteArray.size_extract, eq_iff_iff, iff_true, iff_false, Nat.not_lt] at *); omega)]; try with_reducible rfl)
                                              rotate_left
                                              · simp only [Act.put, List.setIfInBounds_toArray, List.set_cons_zero, List.set_cons_succ, i64_w, i32_w]
                                                rfl
                                              refine pure_ (i := 22) (N := some 6) (v := ?_) (a' := ?_) #[true, true, true, true, true, true, true, true, true, true, true, true, true, true, true, true, true, true, true, true, true, true, true] rfl rfl (any_of HT_.out (by kernel_rfl)) (fun _ _ _ h => h) (Or.inl ⟨by rfl, ?_⟩) ?_ ?_
                                              rotate_left
                                              · intro w'
                                                go_simp
                                                first | with_reducible rfl | (rw [if_neg (by (try simp only [decide_eq_true_eq, ByteArray.size_append, ByteArray.size_extract, eq_iff_iff, iff_true, iff_false, Nat.not_lt] at *); omega)]; try with_reducible rfl)
                                              rotate_left
                                              · simp only [Act.put, List.setIfInBounds_toArray, List.set_cons_zero, List.set_cons_succ, i64_w, i32_w]
                                                rfl
                                              refine done_ (done_of HT_.out (by kernel_rfl)) ?_
                                              try go_wp2
                                              go_ret
                                              exact ⟨by first | rfl | (simp [errW_none, errW_some] <;> rfl) | (simp only [← hji66]; first | rfl | (simp [errW_none, errW_some] <;> rfl)) | (simp [*, errW_none, errW_some] <;> rfl), by repeat (first | (with_reducible first | exact HB.out | apply below_alloc | apply pw_below_drewN | apply below_drew1) | exact HB.out)⟩
                                        · rw [if_neg c71] at H
                                          exact absurd H (by simp)
                                      · rw [if_neg c69] at H
                                        exact absurd H (by simp)
                                    · rw [if_neg c68] at H
                                      exact absurd H (by simp)
                                  · rw [if_neg c67] at H
                                    exact absurd H (by simp)
                                · rw [if_neg c65] at H
                                  exact absurd H (by simp)
                              · rw [if_neg c64] at H
                                exact absurd H (by simp)
                            · rw [if_neg c63] at H
                              exact absurd H (by simp)

/-- THE ONE PURE STATEMENT of gangwaylaw03_CsumSeals: yours. -/
def gangwaylaw03_CsumSeals.Pure : Prop := ∀ (a0 : ByteArray) (a1 : Int) (a2 : Int), a0.size ≤ 140737488351232 → (Lit.int .i64 a1).wf = true → (Lit.int .u8 a2).wf = true → ∃ k, gangwaylaw03_CsumSeals.f k a0 a1 a2 = some true
theorem gangwaylaw03_CsumSeals.walk (P : gangwaylaw03_CsumSeals.Pure) (a0 : ByteArray) (a1 : Int) (a2 : Int) (w : World) (w0 : a0.size ≤ 140737488351232) (w1 : (Lit.int .i64 a1).wf = true) (w2 : (Lit.int .u8 a2).wf = true) :
    Calls Try.prog 5 #[.string a0, .int .i64 a1, .int .u8 a2] w fun e w' => e = .returned (.bool true) ∧ Below w.heap.size w w' := by
  obtain ⟨k, h⟩ := P a0 a1 a2 w0 w1 w2
  refine (gangwaylaw03_CsumSeals.calls k a0 a1 a2 true w h).mono ?_
  rintro e w' ⟨rfl, hd⟩
  exact ⟨rfl, hd⟩

end Go.Proofs.Ytgfgebngmjchbaa.P
