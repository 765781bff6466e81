-- squeezed
-- Written by wip/hprint.py (this session's program) through the kit's print program; hand contracts are marked 'by hand'.
import Derived.Test.YtigagipeaheclaaDoorPx0
import Derived.Test.YtigagipeaheclaaDoorPx2
import Derived.Test.YtigagipeaheclaaDoorPx3
import Derived.Test.YtigagipeaheclaaDoorPx4
import Derived.Test.YtigagipeaheclaaDoorPx6
namespace Go.Proofs.YtigagipeaheclaaDoor.P
open Go.RowKit Go.Proofs.YtigagipeaheclaaDoorW.PrintWords Go.Proofs.YtigagipeaheclaaDoorW.PrintLast Go.Proofs.YtigagipeaheclaaDoorW.PrintMore
attribute [local go_sem] max2_int min2_int max_two min_two max_three min_three max_four min_four   -- for this text's walks alone
set_option linter.unusedVariables false
set_option linter.unusedSimpArgs false

/-! ### inet_Build: function 10 -/
def inet_Build.f (k : Nat) (a0_0 : Int) (a0_1 : Int) (a0_2 : Bool) (a0_3 : Bool) (a0_4 : Int) (a0_5 : Int) (a0_6 : Int) (a0_7 : Int) (a0_8 : Int) (a0_9 : ByteArray) : Option (ByteArray × Int) := (inet_Check.f a0_0 a0_1 a0_2 a0_3 a0_4 a0_5 a0_6 a0_7 a0_8 a0_9).bind fun t120 => (if t120 = 0 then ((octets_Put.f k (IntKind.u64.wrap (a0_7)) 4).bind fun bt121 => ((octets_Put.f k (IntKind.u64.wrap (a0_8)) 4).bind fun bt123 => ((some (([69, (a0_0) % 256] : List Int) : List Int)).bind fun y125 => ((inet_word.f k (wrap64 (20 + (a0_9.size : Int)))).bind fun t128 => (if (strOfNums y125).size + t128.size ≤ 9223372036854775807 then ((inet_word.f k a0_1).bind fun t129 => (if ((strOfNums y125) ++ t128).size + t129.size ≤ 9223372036854775807 then ((inet_flags.f a0_0 a0_1 a0_2 a0_3 a0_4 a0_5 a0_6 a0_7 a0_8 a0_9).bind fun t130 => ((inet_word.f k t130).bind fun t131 => (if (((strOfNums y125) ++ t128) ++ t129).size + t131.size ≤ 9223372036854775807 then ((some (([(a0_5) % 256, (a0_6) % 256] : List Int) : List Int)).bind fun y132 => (if ((((strOfNums y125) ++ t128) ++ t129) ++ t131).size + (strOfNums y132).size ≤ 9223372036854775807 then (if bt121.1.size + bt123.1.size ≤ 9223372036854775807 then ((inet_word.f k 0).bind fun t135 => ((csum_Of.f k (([((((strOfNums y125) ++ t128) ++ t129) ++ t131) ++ (strOfNums y132), t135, bt121.1 ++ bt123.1] : List ByteArray))).bind fun t139 => ((inet_word.f k t139).bind fun t140 => (if (((((strOfNums y125) ++ t128) ++ t129) ++ t131) ++ (strOfNums y132)).size + t140.size ≤ 9223372036854775807 then (if ((((((strOfNums y125) ++ t128) ++ t129) ++ t131) ++ (strOfNums y132)) ++ t140).size + (bt121.1 ++ bt123.1).size ≤ 9223372036854775807 then (if (((((((strOfNums y125) ++ t128) ++ t129) ++ t131) ++ (strOfNums y132)) ++ t140) ++ (bt121.1 ++ bt123.1)).size + a0_9.size ≤ 9223372036854775807 then (some ((((((((strOfNums y125) ++ t128) ++ t129) ++ t131) ++ (strOfNums y132)) ++ t140) ++ (bt121.1 ++ bt123.1)) ++ a0_9, 0)) else (none)) else (none)) else (none))))) else (none)) else (none))) else (none)))) else (none))) else (none)))))) else (some ((⟨#[]⟩ : ByteArray), t120)))
theorem inet_Build.mono : ∀ a0 a1 a2 a3 a4 a5 a6 a7 a8 a9 k, LeO (inet_Build.f k a0 a1 a2 a3 a4 a5 a6 a7 a8 a9) (inet_Build.f (k + 1) a0 a1 a2 a3 a4 a5 a6 a7 a8 a9) := by
 intro a0 a1 a2 a3 a4 a5 a6 a7 a8 a9 k
 unfold inet_Build.f
 repeat' first
   | (with_reducible exact csum_Of.mono _ _)
   | (with_reducible exact inet_word.mono _ _)
   | (with_reducible exact octets_Put.mono _ _ _)
   | (with_reducible exact LeO.refl _)
   | (with_reducible exact LeO.none _)
   | (with_reducible refine LeO.ite ?_ ?_)
   | (with_reducible refine LeO.bind ?_ (fun _ => ?_))
   | exact csum_Of.mono _ _
   | exact inet_word.mono _ _
   | exact octets_Put.mono _ _ _
   | exact LeO.none _
   | refine LeO.ite ?_ ?_
   | refine LeO.bind ?_ (fun _ => ?_)
def inet_Build.T6 : Bool × List (List Nat × List Nat) := (true, [([], []), ([0], [0]), ([1], [1]), ([2], [2]), ([3], [3]), ([], []), ([5], [5]), ([6], [6]), ([7], [7]), ([8], [8]), ([4, 9], [4, 9]), ([], []), ([11], [11]), ([12, 9], [12]), ([10, 13], [10, 13]), ([], []), ([15, 13], [15]), ([16, 16], [16]), ([14, 17], [14, 17]), ([], []), ([19], [19]), ([20], [20]), ([], []), ([22], [22]), ([23], [23]), ([21, 24], [21, 24]), ([25], [25]), ([18, 26], [18, 26]), ([27, 17, 0, 1, 2, 3, 4, 5, 6, 7, 8, 9, 10, 11, 12, 13, 14, 15, 16, 17, 18, 19, 20, 21, 22, 23, 24, 25, 26, 27], [27])])
def inet_Build.B6 : List Nat := [0, 1, 3, 7, 15, 0, 32, 96, 224, 480, 1023, 0, 2048, 7136, 16383, 0, 48096, 113632, 262143, 0, 524288, 1572864, 0, 4194304, 12582912, 33030144, 66584576, 134217727, 268435455]
theorem inet_Build.tab6 : rtab .any (opsOf Tryd.f10 6) = inet_Build.T6 := by kernel_rfl
theorem inet_Build.bits6 : waitsOk inet_Build.T6.2 inet_Build.B6 = true := by kernel_rfl
def inet_Build.T8 : Bool × List (List Nat × List Nat) := (true, [([], []), ([], []), ([], []), ([], []), ([1, 2, 3], [1, 2, 3]), ([4, 2], [4]), ([5, 5], [5]), ([0, 6], [0, 6]), ([], []), ([7, 8], [7, 8]), ([], []), ([10], [10]), ([9, 11], [9, 11]), ([12, 6, 0, 1, 2, 3, 4, 5, 6, 7, 8, 9, 10, 11, 12], [12]), ([13, 0, 1, 2, 3, 4, 5, 6, 7, 8, 9, 10, 11, 12, 13], [])])
def inet_Build.B8 : List Nat := [0, 0, 0, 0, 14, 30, 62, 127, 0, 511, 0, 1024, 4095, 8191, 16383]
theorem inet_Build.tab8 : rtab .any (opsOf Tryd.f10 8) = inet_Build.T8 := by kernel_rfl
theorem inet_Build.bits8 : waitsOk inet_Build.T8.2 inet_Build.B8 = true := by kernel_rfl
set_option maxHeartbeats 8000000 in
set_option maxRecDepth 100000 in
theorem inet_Build.calls (k : Nat) (a0_0 : Int) (a0_1 : Int) (a0_2 : Bool) (a0_3 : Bool) (a0_4 : Int) (a0_5 : Int) (a0_6 : Int) (a0_7 : Int) (a0_8 : Int) (a0_9 : ByteArray) (r1 : ByteArray) (r2 : Int) (w : World) (h : inet_Build.f k a0_0 a0_1 a0_2 a0_3 a0_4 a0_5 a0_6 a0_7 a0_8 a0_9 = some (r1, r2)) :
  Calls Tryd.prog 10 #[.agg #[.int .i64 a0_0, .int .i64 a0_1, .bool a0_2, .bool a0_3, .int .i64 a0_4, .int .i64 a0_5, .int .i64 a0_6, .int .u32 a0_7, .int .u32 a0_8, .string a0_9]] w fun e w' => e = .returned (.tuple #[.string r1, .int .i64 r2]) ∧ Below w.heap.size w w' := by
 have hu24 := Tryd.underlying24
 have HB := Aside0.mk (Below.refl w.heap.size w)
 have H : ((inet_Check.f a0_0 a0_1 a0_2 a0_3 a0_4 a0_5 a0_6 a0_7 a0_8 a0_9).bind fun t120 => (if t120 = 0 then ((octets_Put.f k (IntKind.u64.wrap (a0_7)) 4).bind fun bt121 => ((octets_Put.f k (IntKind.u64.wrap (a0_8)) 4).bind fun bt123 => ((some (([69, (a0_0) % 256] : List Int) : List Int)).bind fun y125 => ((inet_word.f k (wrap64 (20 + (a0_9.size : Int)))).bind fun t128 => (if (strOfNums y125).size + t128.size ≤ 9223372036854775807 then ((inet_word.f k a0_1).bind fun t129 => (if ((strOfNums y125) ++ t128).size + t129.size ≤ 9223372036854775807 then ((inet_flags.f a0_0 a0_1 a0_2 a0_3 a0_4 a0_5 a0_6 a0_7 a0_8 a0_9).bind fun t130 => ((inet_word.f k t130).bind fun t131 => (if (((strOfNums y125) ++ t128) ++ t129).size + t131.size ≤ 9223372036854775807 then ((some (([(a0_5) % 256, (a0_6) % 256] : List Int) : List Int)).bind fun y132 => (if ((((strOfNums y125) ++ t128) ++ t129) ++ t131).size + (strOfNums y132).size ≤ 9223372036854775807 then (if bt121.1.size + bt123.1.size ≤ 9223372036854775807 then ((inet_word.f k 0).bind fun t135 => ((csum_Of.f k (([((((strOfNums y125) ++ t128) ++ t129) ++ t131) ++ (strOfNums y132), t135, bt121.1 ++ bt123.1] : List ByteArray))).bind fun t139 => ((inet_word.f k t139).bind fun t140 => (if (((((strOfNums y125) ++ t128) ++ t129) ++ t131) ++ (strOfNums y132)).size + t140.size ≤ 9223372036854775807 then (if ((((((strOfNums y125) ++ t128) ++ t129) ++ t131) ++ (strOfNums y132)) ++ t140).size + (bt121.1 ++ bt123.1).size ≤ 9223372036854775807 then (if (((((((strOfNums y125) ++ t128) ++ t129) ++ t131) ++ (strOfNums y132)) ++ t140) ++ (bt121.1 ++ bt123.1)).size + a0_9.size ≤ 9223372036854775807 then (some ((((((((strOfNums y125) ++ t128) ++ t129) ++ t131) ++ (strOfNums y132)) ++ t140) ++ (bt121.1 ++ bt123.1)) ++ a0_9, 0)) else (none)) else (none)) else (none))))) else (none)) else (none))) else (none)))) else (none))) else (none)))))) else (some ((⟨#[]⟩ : ByteArray), t120)))) = some (r1, r2) := h
 clear h
 replace H := Option.bind_eq_some_iff.mp H
 obtain ⟨t120, A20, H⟩ := H
 replace H : (if t120 = 0 then ((octets_Put.f k (IntKind.u64.wrap (a0_7)) 4).bind fun bt121 => ((octets_Put.f k (IntKind.u64.wrap (a0_8)) 4).bind fun bt123 => ((some (([69, (a0_0) % 256] : List Int) : List Int)).bind fun y125 => ((inet_word.f k (wrap64 (20 + (a0_9.size : Int)))).bind fun t128 => (if (strOfNums y125).size + t128.size ≤ 9223372036854775807 then ((inet_word.f k a0_1).bind fun t129 => (if ((strOfNums y125) ++ t128).size + t129.size ≤ 9223372036854775807 then ((inet_flags.f a0_0 a0_1 a0_2 a0_3 a0_4 a0_5 a0_6 a0_7 a0_8 a0_9).bind fun t130 => ((inet_word.f k t130).bind fun t131 => (if (((strOfNums y125) ++ t128) ++ t129).size + t131.size ≤ 9223372036854775807 then ((some (([(a0_5) % 256, (a0_6) % 256] : List Int) : List Int)).bind fun y132 => (if ((((strOfNums y125) ++ t128) ++ t129) ++ t131).size + (strOfNums y132).size ≤ 9223372036854775807 then (if bt121.1.size + bt123.1.size ≤ 9223372036854775807 then ((inet_word.f k 0).bind fun t135 => ((csum_Of.f k (([((((strOfNums y125) ++ t128) ++ t129) ++ t131) ++ (strOfNums y132), t135, bt121.1 ++ bt123.1] : List ByteArray))).bind fun t139 => ((inet_word.f k t139).bind fun t140 => (if (((((strOfNums y125) ++ t128) ++ t129) ++ t131) ++ (strOfNums y132)).size + t140.size ≤ 9223372036854775807 then (if ((((((strOfNums y125) ++ t128) ++ t129) ++ t131) ++ (strOfNums y132)) ++ t140).size + (bt121.1 ++ bt123.1).size ≤ 9223372036854775807 then (if (((((((strOfNums y125) ++ t128) ++ t129) ++ t131) ++ (strOfNums y132)) ++ t140) ++ (bt121.1 ++ bt123.1)).size + a0_9.size ≤ 9223372036854775807 then (some ((((((((strOfNums y125) ++ t128) ++ t129) ++ t131) ++ (strOfNums y132)) ++ t140) ++ (bt121.1 ++ bt123.1)) ++ a0_9, 0)) else (none)) else (none)) else (none))))) else (none)) else (none))) else (none)))) else (none))) else (none)))))) else (some ((⟨#[]⟩ : ByteArray), t120))) = some (r1, r2) := H
 have A2 := Aside0.mk A20
 clear A20
 by_cases c3 : t120 = 0
 ·rw [if_pos c3] at H
  have c3b0 : (t120 == 0) = true := beq_iff_eq.mpr c3
  have c3b1 : (t120 != 0) = false := bne_eq_false_iff_eq.mpr c3
  clear c3
  replace H := Option.bind_eq_some_iff.mp H
  obtain ⟨⟨t121, t122⟩, A40, H⟩ := H
  replace H : ((octets_Put.f k (IntKind.u64.wrap (a0_8)) 4).bind fun bt123 => ((some (([69, (a0_0) % 256] : List Int) : List Int)).bind fun y125 => ((inet_word.f k (wrap64 (20 + (a0_9.size : Int)))).bind fun t128 => (if (strOfNums y125).size + t128.size ≤ 9223372036854775807 then ((inet_word.f k a0_1).bind fun t129 => (if ((strOfNums y125) ++ t128).size + t129.size ≤ 9223372036854775807 then ((inet_flags.f a0_0 a0_1 a0_2 a0_3 a0_4 a0_5 a0_6 a0_7 a0_8 a0_9).bind fun t130 => ((inet_word.f k t130).bind fun t131 => (if (((strOfNums y125) ++ t128) ++ t129).size + t131.size ≤ 9223372036854775807 then ((some (([(a0_5) % 256, (a0_6) % 256] : List Int) : List Int)).bind fun y132 => (if ((((strOfNums y125) ++ t128) ++ t129) ++ t131).size + (strOfNums y132).size ≤ 9223372036854775807 then (if t121.size + bt123.1.size ≤ 9223372036854775807 then ((inet_word.f k 0).bind fun t135 => ((csum_Of.f k (([((((strOfNums y125) ++ t128) ++ t129) ++ t131) ++ (strOfNums y132), t135, t121 ++ bt123.1] : List ByteArray))).bind fun t139 => ((inet_word.f k t139).bind fun t140 => (if (((((strOfNums y125) ++ t128) ++ t129) ++ t131) ++ (strOfNums y132)).size + t140.size ≤ 9223372036854775807 then (if ((((((strOfNums y125) ++ t128) ++ t129) ++ t131) ++ (strOfNums y132)) ++ t140).size + (t121 ++ bt123.1).size ≤ 9223372036854775807 then (if (((((((strOfNums y125) ++ t128) ++ t129) ++ t131) ++ (strOfNums y132)) ++ t140) ++ (t121 ++ bt123.1)).size + a0_9.size ≤ 9223372036854775807 then (some ((((((((strOfNums y125) ++ t128) ++ t129) ++ t131) ++ (strOfNums y132)) ++ t140) ++ (t121 ++ bt123.1)) ++ a0_9, 0)) else (none)) else (none)) else (none))))) else (none)) else (none))) else (none)))) else (none))) else (none))))) = some (r1, r2) := H
  have A4 := Aside0.mk A40
  clear A40
  replace H := Option.bind_eq_some_iff.mp H
  obtain ⟨⟨t123, t124⟩, A50, H⟩ := H
  replace H : ((some (([69, (a0_0) % 256] : List Int) : List Int)).bind fun y125 => ((inet_word.f k (wrap64 (20 + (a0_9.size : Int)))).bind fun t128 => (if (strOfNums y125).size + t128.size ≤ 9223372036854775807 then ((inet_word.f k a0_1).bind fun t129 => (if ((strOfNums y125) ++ t128).size + t129.size ≤ 9223372036854775807 then ((inet_flags.f a0_0 a0_1 a0_2 a0_3 a0_4 a0_5 a0_6 a0_7 a0_8 a0_9).bind fun t130 => ((inet_word.f k t130).bind fun t131 => (if (((strOfNums y125) ++ t128) ++ t129).size + t131.size ≤ 9223372036854775807 then ((some (([(a0_5) % 256, (a0_6) % 256] : List Int) : List Int)).bind fun y132 => (if ((((strOfNums y125) ++ t128) ++ t129) ++ t131).size + (strOfNums y132).size ≤ 9223372036854775807 then (if t121.size + t123.size ≤ 9223372036854775807 then ((inet_word.f k 0).bind fun t135 => ((csum_Of.f k (([((((strOfNums y125) ++ t128) ++ t129) ++ t131) ++ (strOfNums y132), t135, t121 ++ t123] : List ByteArray))).bind fun t139 => ((inet_word.f k t139).bind fun t140 => (if (((((strOfNums y125) ++ t128) ++ t129) ++ t131) ++ (strOfNums y132)).size + t140.size ≤ 9223372036854775807 then (if ((((((strOfNums y125) ++ t128) ++ t129) ++ t131) ++ (strOfNums y132)) ++ t140).size + (t121 ++ t123).size ≤ 9223372036854775807 then (if (((((((strOfNums y125) ++ t128) ++ t129) ++ t131) ++ (strOfNums y132)) ++ t140) ++ (t121 ++ t123)).size + a0_9.size ≤ 9223372036854775807 then (some ((((((((strOfNums y125) ++ t128) ++ t129) ++ t131) ++ (strOfNums y132)) ++ t140) ++ (t121 ++ t123)) ++ a0_9, 0)) else (none)) else (none)) else (none))))) else (none)) else (none))) else (none)))) else (none))) else (none)))) = some (r1, r2) := H
  have A5 := Aside0.mk A50
  clear A50
  obtain ⟨y125, hy125⟩ : ∃ y_ : List Int, y_ = (([69, (a0_0) % 256] : List Int)) := ⟨_, rfl⟩
  replace H : ((inet_word.f k (wrap64 (20 + (a0_9.size : Int)))).bind fun t128 => (if (strOfNums y125).size + t128.size ≤ 9223372036854775807 then ((inet_word.f k a0_1).bind fun t129 => (if ((strOfNums y125) ++ t128).size + t129.size ≤ 9223372036854775807 then ((inet_flags.f a0_0 a0_1 a0_2 a0_3 a0_4 a0_5 a0_6 a0_7 a0_8 a0_9).bind fun t130 => ((inet_word.f k t130).bind fun t131 => (if (((strOfNums y125) ++ t128) ++ t129).size + t131.size ≤ 9223372036854775807 then ((some (([(a0_5) % 256, (a0_6) % 256] : List Int) : List Int)).bind fun y132 => (if ((((strOfNums y125) ++ t128) ++ t129) ++ t131).size + (strOfNums y132).size ≤ 9223372036854775807 then (if t121.size + t123.size ≤ 9223372036854775807 then ((inet_word.f k 0).bind fun t135 => ((csum_Of.f k (([((((strOfNums y125) ++ t128) ++ t129) ++ t131) ++ (strOfNums y132), t135, t121 ++ t123] : List ByteArray))).bind fun t139 => ((inet_word.f k t139).bind fun t140 => (if (((((strOfNums y125) ++ t128) ++ t129) ++ t131) ++ (strOfNums y132)).size + t140.size ≤ 9223372036854775807 then (if ((((((strOfNums y125) ++ t128) ++ t129) ++ t131) ++ (strOfNums y132)) ++ t140).size + (t121 ++ t123).size ≤ 9223372036854775807 then (if (((((((strOfNums y125) ++ t128) ++ t129) ++ t131) ++ (strOfNums y132)) ++ t140) ++ (t121 ++ t123)).size + a0_9.size ≤ 9223372036854775807 then (some ((((((((strOfNums y125) ++ t128) ++ t129) ++ t131) ++ (strOfNums y132)) ++ t140) ++ (t121 ++ t123)) ++ a0_9, 0)) else (none)) else (none)) else (none))))) else (none)) else (none))) else (none)))) else (none))) else (none))) = some (r1, r2) := by first | (rw [hy125]; with_reducible exact H) | (have H2_ := (Option.bind_some _ _).symm.trans H; rw [hy125]; with_reducible exact H2_) | (have H2_ := (Option.bind_some _ _).symm.trans H; with_reducible exact H2_) | with_reducible exact H | (rw [hy125]; exact H) | exact H
  have Ny125 := Aside0.mk hy125
  clear hy125
  replace H := Option.bind_eq_some_iff.mp H
  obtain ⟨t128, A60, H⟩ := H
  replace H : (if (strOfNums y125).size + t128.size ≤ 9223372036854775807 then ((inet_word.f k a0_1).bind fun t129 => (if ((strOfNums y125) ++ t128).size + t129.size ≤ 9223372036854775807 then ((inet_flags.f a0_0 a0_1 a0_2 a0_3 a0_4 a0_5 a0_6 a0_7 a0_8 a0_9).bind fun t130 => ((inet_word.f k t130).bind fun t131 => (if (((strOfNums y125) ++ t128) ++ t129).size + t131.size ≤ 9223372036854775807 then ((some (([(a0_5) % 256, (a0_6) % 256] : List Int) : List Int)).bind fun y132 => (if ((((strOfNums y125) ++ t128) ++ t129) ++ t131).size + (strOfNums y132).size ≤ 9223372036854775807 then (if t121.size + t123.size ≤ 9223372036854775807 then ((inet_word.f k 0).bind fun t135 => ((csum_Of.f k (([((((strOfNums y125) ++ t128) ++ t129) ++ t131) ++ (strOfNums y132), t135, t121 ++ t123] : List ByteArray))).bind fun t139 => ((inet_word.f k t139).bind fun t140 => (if (((((strOfNums y125) ++ t128) ++ t129) ++ t131) ++ (strOfNums y132)).size + t140.size ≤ 9223372036854775807 then (if ((((((strOfNums y125) ++ t128) ++ t129) ++ t131) ++ (strOfNums y132)) ++ t140).size + (t121 ++ t123).size ≤ 9223372036854775807 then (if (((((((strOfNums y125) ++ t128) ++ t129) ++ t131) ++ (strOfNums y132)) ++ t140) ++ (t121 ++ t123)).size + a0_9.size ≤ 9223372036854775807 then (some ((((((((strOfNums y125) ++ t128) ++ t129) ++ t131) ++ (strOfNums y132)) ++ t140) ++ (t121 ++ t123)) ++ a0_9, 0)) else (none)) else (none)) else (none))))) else (none)) else (none))) else (none)))) else (none))) else (none)) = some (r1, r2) := H
  have A6 := Aside0.mk A60
  clear A60
  by_cases c7 : (strOfNums y125).size + t128.size ≤ 9223372036854775807
  ·rw [if_pos c7] at H
   have c7b0 := eq_true c7
   have c7b1 : decide ((strOfNums y125).size + t128.size ≤ 9223372036854775807) = true := decide_eq_true c7
   try have c7b2 : (9223372036854775807 < (strOfNums y125).size + t128.size) = False := eq_false (Nat.not_lt.2 c7)
   replace H := Option.bind_eq_some_iff.mp H
   obtain ⟨t129, A80, H⟩ := H
   replace H : (if ((strOfNums y125) ++ t128).size + t129.size ≤ 9223372036854775807 then ((inet_flags.f a0_0 a0_1 a0_2 a0_3 a0_4 a0_5 a0_6 a0_7 a0_8 a0_9).bind fun t130 => ((inet_word.f k t130).bind fun t131 => (if (((strOfNums y125) ++ t128) ++ t129).size + t131.size ≤ 9223372036854775807 then ((some (([(a0_5) % 256, (a0_6) % 256] : List Int) : List Int)).bind fun y132 => (if ((((strOfNums y125) ++ t128) ++ t129) ++ t131).size + (strOfNums y132).size ≤ 9223372036854775807 then (if t121.size + t123.size ≤ 9223372036854775807 then ((inet_word.f k 0).bind fun t135 => ((csum_Of.f k (([((((strOfNums y125) ++ t128) ++ t129) ++ t131) ++ (strOfNums y132), t135, t121 ++ t123] : List ByteArray))).bind fun t139 => ((inet_word.f k t139).bind fun t140 => (if (((((strOfNums y125) ++ t128) ++ t129) ++ t131) ++ (strOfNums y132)).size + t140.size ≤ 9223372036854775807 then (if ((((((strOfNums y125) ++ t128) ++ t129) ++ t131) ++ (strOfNums y132)) ++ t140).size + (t121 ++ t123).size ≤ 9223372036854775807 then (if (((((((strOfNums y125) ++ t128) ++ t129) ++ t131) ++ (strOfNums y132)) ++ t140) ++ (t121 ++ t123)).size + a0_9.size ≤ 9223372036854775807 then (some ((((((((strOfNums y125) ++ t128) ++ t129) ++ t131) ++ (strOfNums y132)) ++ t140) ++ (t121 ++ t123)) ++ a0_9, 0)) else (none)) else (none)) else (none))))) else (none)) else (none))) else (none)))) else (none)) = some (r1, r2) := H
   have A8 := Aside0.mk A80
   clear A80
   by_cases c9 : ((strOfNums y125) ++ t128).size + t129.size ≤ 9223372036854775807
   ·rw [if_pos c9] at H
    have c9b0 := eq_true c9
    have c9b1 : decide (((strOfNums y125) ++ t128).size + t129.size ≤ 9223372036854775807) = true := decide_eq_true c9
    have c9z := c9
    simp only [ByteArray.size_append] at c9z
    have c9z1 := eq_true c9z
    have c9z2 := eq_false (Nat.not_lt.2 c9z)
    try have c9b2 : (9223372036854775807 < ((strOfNums y125) ++ t128).size + t129.size) = False := eq_false (Nat.not_lt.2 c9)
    replace H := Option.bind_eq_some_iff.mp H
    obtain ⟨t130, A100, H⟩ := H
    replace H : ((inet_word.f k t130).bind fun t131 => (if (((strOfNums y125) ++ t128) ++ t129).size + t131.size ≤ 9223372036854775807 then ((some (([(a0_5) % 256, (a0_6) % 256] : List Int) : List Int)).bind fun y132 => (if ((((strOfNums y125) ++ t128) ++ t129) ++ t131).size + (strOfNums y132).size ≤ 9223372036854775807 then (if t121.size + t123.size ≤ 9223372036854775807 then ((inet_word.f k 0).bind fun t135 => ((csum_Of.f k (([((((strOfNums y125) ++ t128) ++ t129) ++ t131) ++ (strOfNums y132), t135, t121 ++ t123] : List ByteArray))).bind fun t139 => ((inet_word.f k t139).bind fun t140 => (if (((((strOfNums y125) ++ t128) ++ t129) ++ t131) ++ (strOfNums y132)).size + t140.size ≤ 9223372036854775807 then (if ((((((strOfNums y125) ++ t128) ++ t129) ++ t131) ++ (strOfNums y132)) ++ t140).size + (t121 ++ t123).size ≤ 9223372036854775807 then (if (((((((strOfNums y125) ++ t128) ++ t129) ++ t131) ++ (strOfNums y132)) ++ t140) ++ (t121 ++ t123)).size + a0_9.size ≤ 9223372036854775807 then (some ((((((((strOfNums y125) ++ t128) ++ t129) ++ t131) ++ (strOfNums y132)) ++ t140) ++ (t121 ++ t123)) ++ a0_9, 0)) else (none)) else (none)) else (none))))) else (none)) else (none))) else (none))) = some (r1, r2) := H
    have A10 := Aside0.mk A100
    clear A100
    replace H := Option.bind_eq_some_iff.mp H
    obtain ⟨t131, A110, H⟩ := H
    replace H : (if (((strOfNums y125) ++ t128) ++ t129).size + t131.size ≤ 9223372036854775807 then ((some (([(a0_5) % 256, (a0_6) % 256] : List Int) : List Int)).bind fun y132 => (if ((((strOfNums y125) ++ t128) ++ t129) ++ t131).size + (strOfNums y132).size ≤ 9223372036854775807 then (if t121.size + t123.size ≤ 9223372036854775807 then ((inet_word.f k 0).bind fun t135 => ((csum_Of.f k (([((((strOfNums y125) ++ t128) ++ t129) ++ t131) ++ (strOfNums y132), t135, t121 ++ t123] : List ByteArray))).bind fun t139 => ((inet_word.f k t139).bind fun t140 => (if (((((strOfNums y125) ++ t128) ++ t129) ++ t131) ++ (strOfNums y132)).size + t140.size ≤ 9223372036854775807 then (if ((((((strOfNums y125) ++ t128) ++ t129) ++ t131) ++ (strOfNums y132)) ++ t140).size + (t121 ++ t123).size ≤ 9223372036854775807 then (if (((((((strOfNums y125) ++ t128) ++ t129) ++ t131) ++ (strOfNums y132)) ++ t140) ++ (t121 ++ t123)).size + a0_9.size ≤ 9223372036854775807 then (some ((((((((strOfNums y125) ++ t128) ++ t129) ++ t131) ++ (strOfNums y132)) ++ t140) ++ (t121 ++ t123)) ++ a0_9, 0)) else (none)) else (none)) else (none))))) else (none)) else (none))) else (none)) = some (r1, r2) := H
    have A11 := Aside0.mk A110
    clear A110
    by_cases c12 : (((strOfNums y125) ++ t128) ++ t129).size + t131.size ≤ 9223372036854775807
    ·rw [if_pos c12] at H
     have c12b0 := eq_true c12
     have c12b1 : decide ((((strOfNums y125) ++ t128) ++ t129).size + t131.size ≤ 9223372036854775807) = true := decide_eq_true c12
     have c12z := c12
     simp only [ByteArray.size_append] at c12z
     have c12z1 := eq_true c12z
     have c12z2 := eq_false (Nat.not_lt.2 c12z)
     try have c12b2 : (9223372036854775807 < (((strOfNums y125) ++ t128) ++ t129).size + t131.size) = False := eq_false (Nat.not_lt.2 c12)
     obtain ⟨y132, hy132⟩ : ∃ y_ : List Int, y_ = (([(a0_5) % 256, (a0_6) % 256] : List Int)) := ⟨_, rfl⟩
     replace H : (if ((((strOfNums y125) ++ t128) ++ t129) ++ t131).size + (strOfNums y132).size ≤ 9223372036854775807 then (if t121.size + t123.size ≤ 9223372036854775807 then ((inet_word.f k 0).bind fun t135 => ((csum_Of.f k (([((((strOfNums y125) ++ t128) ++ t129) ++ t131) ++ (strOfNums y132), t135, t121 ++ t123] : List ByteArray))).bind fun t139 => ((inet_word.f k t139).bind fun t140 => (if (((((strOfNums y125) ++ t128) ++ t129) ++ t131) ++ (strOfNums y132)).size + t140.size ≤ 9223372036854775807 then (if ((((((strOfNums y125) ++ t128) ++ t129) ++ t131) ++ (strOfNums y132)) ++ t140).size + (t121 ++ t123).size ≤ 9223372036854775807 then (if (((((((strOfNums y125) ++ t128) ++ t129) ++ t131) ++ (strOfNums y132)) ++ t140) ++ (t121 ++ t123)).size + a0_9.size ≤ 9223372036854775807 then (some ((((((((strOfNums y125) ++ t128) ++ t129) ++ t131) ++ (strOfNums y132)) ++ t140) ++ (t121 ++ t123)) ++ a0_9, 0)) else (none)) else (none)) else (none))))) else (none)) else (none)) = some (r1, r2) := by first | (rw [hy132]; with_reducible exact H) | (have H2_ := (Option.bind_some _ _).symm.trans H; rw [hy132]; with_reducible exact H2_) | (have H2_ := (Option.bind_some _ _).symm.trans H; with_reducible exact H2_) | with_reducible exact H | (rw [hy132]; exact H) | exact H
     have Ny132 := Aside0.mk hy132
     clear hy132
     by_cases c13 : ((((strOfNums y125) ++ t128) ++ t129) ++ t131).size + (strOfNums y132).size ≤ 9223372036854775807
     ·rw [if_pos c13] at H
      have c13b0 := eq_true c13
      have c13b1 : decide (((((strOfNums y125) ++ t128) ++ t129) ++ t131).size + (strOfNums y132).size ≤ 9223372036854775807) = true := decide_eq_true c13
      have c13z := c13
      simp only [ByteArray.size_append] at c13z
      have c13z1 := eq_true c13z
      have c13z2 := eq_false (Nat.not_lt.2 c13z)
      try have c13b2 : (9223372036854775807 < ((((strOfNums y125) ++ t128) ++ t129) ++ t131).size + (strOfNums y132).size) = False := eq_false (Nat.not_lt.2 c13)
      by_cases c14 : t121.size + t123.size ≤ 9223372036854775807
      ·rw [if_pos c14] at H
       have c14b0 := eq_true c14
       have c14b1 : decide (t121.size + t123.size ≤ 9223372036854775807) = true := decide_eq_true c14
       try have c14b2 : (9223372036854775807 < t121.size + t123.size) = False := eq_false (Nat.not_lt.2 c14)
       replace H := Option.bind_eq_some_iff.mp H
       obtain ⟨t135, A150, H⟩ := H
       replace H : ((csum_Of.f k (([((((strOfNums y125) ++ t128) ++ t129) ++ t131) ++ (strOfNums y132), t135, t121 ++ t123] : List ByteArray))).bind fun t139 => ((inet_word.f k t139).bind fun t140 => (if (((((strOfNums y125) ++ t128) ++ t129) ++ t131) ++ (strOfNums y132)).size + t140.size ≤ 9223372036854775807 then (if ((((((strOfNums y125) ++ t128) ++ t129) ++ t131) ++ (strOfNums y132)) ++ t140).size + (t121 ++ t123).size ≤ 9223372036854775807 then (if (((((((strOfNums y125) ++ t128) ++ t129) ++ t131) ++ (strOfNums y132)) ++ t140) ++ (t121 ++ t123)).size + a0_9.size ≤ 9223372036854775807 then (some ((((((((strOfNums y125) ++ t128) ++ t129) ++ t131) ++ (strOfNums y132)) ++ t140) ++ (t121 ++ t123)) ++ a0_9, 0)) else (none)) else (none)) else (none)))) = some (r1, r2) := H
       have A15 := Aside0.mk A150
       clear A150
       obtain ⟨y136, hy136⟩ : ∃ y_ : List ByteArray, y_ = (([((((strOfNums y125) ++ t128) ++ t129) ++ t131) ++ (strOfNums y132), t135, t121 ++ t123] : List ByteArray)) := ⟨_, rfl⟩
       replace H : ((csum_Of.f k y136).bind fun t139 => ((inet_word.f k t139).bind fun t140 => (if (((((strOfNums y125) ++ t128) ++ t129) ++ t131) ++ (strOfNums y132)).size + t140.size ≤ 9223372036854775807 then (if ((((((strOfNums y125) ++ t128) ++ t129) ++ t131) ++ (strOfNums y132)) ++ t140).size + (t121 ++ t123).size ≤ 9223372036854775807 then (if (((((((strOfNums y125) ++ t128) ++ t129) ++ t131) ++ (strOfNums y132)) ++ t140) ++ (t121 ++ t123)).size + a0_9.size ≤ 9223372036854775807 then (some ((((((((strOfNums y125) ++ t128) ++ t129) ++ t131) ++ (strOfNums y132)) ++ t140) ++ (t121 ++ t123)) ++ a0_9, 0)) else (none)) else (none)) else (none)))) = some (r1, r2) := by first | (rw [hy136]; with_reducible exact H) | (have H2_ := (Option.bind_some _ _).symm.trans H; rw [hy136]; with_reducible exact H2_) | (have H2_ := (Option.bind_some _ _).symm.trans H; with_reducible exact H2_) | with_reducible exact H | (rw [hy136]; exact H) | exact H
       have Ny136 := Aside0.mk hy136
       clear hy136
       replace H := Option.bind_eq_some_iff.mp H
       obtain ⟨t139, A160, H⟩ := H
       replace H : ((inet_word.f k t139).bind fun t140 => (if (((((strOfNums y125) ++ t128) ++ t129) ++ t131) ++ (strOfNums y132)).size + t140.size ≤ 9223372036854775807 then (if ((((((strOfNums y125) ++ t128) ++ t129) ++ t131) ++ (strOfNums y132)) ++ t140).size + (t121 ++ t123).size ≤ 9223372036854775807 then (if (((((((strOfNums y125) ++ t128) ++ t129) ++ t131) ++ (strOfNums y132)) ++ t140) ++ (t121 ++ t123)).size + a0_9.size ≤ 9223372036854775807 then (some ((((((((strOfNums y125) ++ t128) ++ t129) ++ t131) ++ (strOfNums y132)) ++ t140) ++ (t121 ++ t123)) ++ a0_9, 0)) else (none)) else (none)) else (none))) = some (r1, r2) := H
       have A16 := Aside0.mk A160
       clear A160
       replace H := Option.bind_eq_some_iff.mp H
       obtain ⟨t140, A170, H⟩ := H
       replace H : (if (((((strOfNums y125) ++ t128) ++ t129) ++ t131) ++ (strOfNums y132)).size + t140.size ≤ 9223372036854775807 then (if ((((((strOfNums y125) ++ t128) ++ t129) ++ t131) ++ (strOfNums y132)) ++ t140).size + (t121 ++ t123).size ≤ 9223372036854775807 then (if (((((((strOfNums y125) ++ t128) ++ t129) ++ t131) ++ (strOfNums y132)) ++ t140) ++ (t121 ++ t123)).size + a0_9.size ≤ 9223372036854775807 then (some ((((((((strOfNums y125) ++ t128) ++ t129) ++ t131) ++ (strOfNums y132)) ++ t140) ++ (t121 ++ t123)) ++ a0_9, 0)) else (none)) else (none)) else (none)) = some (r1, r2) := H
       have A17 := Aside0.mk A170
       clear A170
       by_cases c18 : (((((strOfNums y125) ++ t128) ++ t129) ++ t131) ++ (strOfNums y132)).size + t140.size ≤ 9223372036854775807
       ·rw [if_pos c18] at H
        have c18b0 := eq_true c18
        have c18b1 : decide ((((((strOfNums y125) ++ t128) ++ t129) ++ t131) ++ (strOfNums y132)).size + t140.size ≤ 9223372036854775807) = true := decide_eq_true c18
        have c18z := c18
        simp only [ByteArray.size_append] at c18z
        have c18z1 := eq_true c18z
        have c18z2 := eq_false (Nat.not_lt.2 c18z)
        try have c18b2 : (9223372036854775807 < (((((strOfNums y125) ++ t128) ++ t129) ++ t131) ++ (strOfNums y132)).size + t140.size) = False := eq_false (Nat.not_lt.2 c18)
        by_cases c19 : ((((((strOfNums y125) ++ t128) ++ t129) ++ t131) ++ (strOfNums y132)) ++ t140).size + (t121 ++ t123).size ≤ 9223372036854775807
        ·rw [if_pos c19] at H
         have c19b0 := eq_true c19
         have c19b1 : decide (((((((strOfNums y125) ++ t128) ++ t129) ++ t131) ++ (strOfNums y132)) ++ t140).size + (t121 ++ t123).size ≤ 9223372036854775807) = true := decide_eq_true c19
         have c19z := c19
         simp only [ByteArray.size_append] at c19z
         have c19z1 := eq_true c19z
         have c19z2 := eq_false (Nat.not_lt.2 c19z)
         try have c19b2 : (9223372036854775807 < ((((((strOfNums y125) ++ t128) ++ t129) ++ t131) ++ (strOfNums y132)) ++ t140).size + (t121 ++ t123).size) = False := eq_false (Nat.not_lt.2 c19)
         by_cases c20 : (((((((strOfNums y125) ++ t128) ++ t129) ++ t131) ++ (strOfNums y132)) ++ t140) ++ (t121 ++ t123)).size + a0_9.size ≤ 9223372036854775807
         ·rw [if_pos c20] at H
          have c20b0 := eq_true c20
          have c20b1 : decide ((((((((strOfNums y125) ++ t128) ++ t129) ++ t131) ++ (strOfNums y132)) ++ t140) ++ (t121 ++ t123)).size + a0_9.size ≤ 9223372036854775807) = true := decide_eq_true c20
          have c20z := c20
          simp only [ByteArray.size_append] at c20z
          have c20z1 := eq_true c20z
          have c20z2 := eq_false (Nat.not_lt.2 c20z)
          try have c20b2 : (9223372036854775807 < (((((((strOfNums y125) ++ t128) ++ t129) ++ t131) ++ (strOfNums y132)) ++ t140) ++ (t121 ++ t123)).size + a0_9.size) = False := eq_false (Nat.not_lt.2 c20)
          simp only [Option.some.injEq, Prod.mk.injEq] at H
          obtain ⟨rfl, rfl⟩ := H
          go_enter Tryd.func10, Tryd.ntmps10
          try go_wp2_with (first | ((with_reducible refine gate_dst (N := 1) rfl ?_); refine box_event ?hg (N := 1) ?hd (cs := #[.int .i64 a0_0, .int .i64 a0_1, .bool a0_2, .bool a0_3, .int .i64 a0_4, .int .i64 a0_5, .int .i64 a0_6, .int .u32 a0_7, .int .u32 a0_8, .string a0_9]) (t := 24) ?hr ?_; (case hd => rfl); (case hg => rfl); (case hr => first | (go_simp; done) | (go_simp; rfl)); intro gb119 hg w21 hbox hb; have n0_ := Aside0.mk (below_step (by repeat (first | (with_reducible first | exact HB.out | apply below_alloc | apply pw_below_drewN | apply below_drew1) | exact HB.out)) hb); have n1_ := Aside0.mk (hbox); have n2_ := Aside0.mk ((by rw [hg]; exact (below_size (by repeat (first | (with_reducible first | exact HB.out | apply below_alloc | apply pw_below_drewN | apply below_drew1) | exact HB.out))) : w.heap.size ≤ gb119)); have n3_ := Aside0.mk ((by rw [hg]; exact (below_size (by repeat (first | (with_reducible first | exact HB.out | apply below_alloc | apply pw_below_drewN | apply below_drew1) | exact HB.out))) : w.heap.size ≤ gb119)); clear HB; have HB := n0_; have BK119 := n1_; have GW119 := n2_; have GE119 := n3_; clear n0_ n1_ n2_ n3_; clear hb hbox hg; have hcz22_0 : w21.cell? ⟨gb119, 0, none⟩ = some (.int .i64 a0_0) := (blk_cell BK119.out 0).trans rfl; have hcz22_1 : w21.cell? ⟨gb119, 1, none⟩ = some (.int .i64 a0_1) := (blk_cell BK119.out 1).trans rfl; have hcz22_2 : w21.cell? ⟨gb119, 2, none⟩ = some (.bool a0_2) := (blk_cell BK119.out 2).trans rfl; have hcz22_3 : w21.cell? ⟨gb119, 3, none⟩ = some (.bool a0_3) := (blk_cell BK119.out 3).trans rfl; have hcz22_4 : w21.cell? ⟨gb119, 4, none⟩ = some (.int .i64 a0_4) := (blk_cell BK119.out 4).trans rfl; have hcz22_5 : w21.cell? ⟨gb119, 5, none⟩ = some (.int .i64 a0_5) := (blk_cell BK119.out 5).trans rfl; have hcz22_6 : w21.cell? ⟨gb119, 6, none⟩ = some (.int .i64 a0_6) := (blk_cell BK119.out 6).trans rfl; have hcz22_7 : w21.cell? ⟨gb119, 7, none⟩ = some (.int .u32 a0_7) := (blk_cell BK119.out 7).trans rfl; have hcz22_8 : w21.cell? ⟨gb119, 8, none⟩ = some (.int .u32 a0_8) := (blk_cell BK119.out 8).trans rfl; have hcz22_9 : w21.cell? ⟨gb119, 9, none⟩ = some (.string a0_9) := (blk_cell BK119.out 9).trans rfl; have hfz22_0 := blk_frozen BK119.out 0; have hfz22_1 := blk_frozen BK119.out 1; have hfz22_2 := blk_frozen BK119.out 2; have hfz22_3 := blk_frozen BK119.out 3; have hfz22_4 := blk_frozen BK119.out 4; have hfz22_5 := blk_frozen BK119.out 5; have hfz22_6 := blk_frozen BK119.out 6; have hfz22_7 := blk_frozen BK119.out 7; have hfz22_8 := blk_frozen BK119.out 8; have hfz22_9 := blk_frozen BK119.out 9) | ((with_reducible refine gate_callee (f := 13) rfl ?_); refine goesL_ (some 12) rfl rfl Tryd.func13 (by kernel_rfl) rfl #[.agg #[.int .i64 a0_0, .int .i64 a0_1, .bool a0_2, .bool a0_3, .int .i64 a0_4, .int .i64 a0_5, .int .i64 a0_6, .int .u32 a0_7, .int .u32 a0_8, .string a0_9]] rfl (by (try simp only [List.map_toArray, List.map_cons, List.map_nil]); first | done | rfl | (simp only [List.length_drop, List.length_take]; rfl)) ?_; (with_reducible refine (inet_Check.calls a0_0 a0_1 a0_2 a0_3 a0_4 a0_5 a0_6 a0_7 a0_8 a0_9 t120 _ A2.out).mono ?_); rintro e w23 ⟨rfl, hb⟩; refine ⟨_, rfl, ?_⟩; have n0_ := Aside0.mk (blk_below (g := gb119) (o := .cells #[.int .i64 a0_0, .int .i64 a0_1, .bool a0_2, .bool a0_3, .int .i64 a0_4, .int .i64 a0_5, .int .i64 a0_6, .int .u32 a0_7, .int .u32 a0_8, .string a0_9] 24 (0, 0)) (by (with_reducible repeat (first | refine blk_drewN ?_ _ | refine blk_drew ?_ | refine blk_alloc ?_ _)); exact BK119.out) hb); have n1_ := Aside0.mk (below_step (by repeat (first | (with_reducible first | exact HB.out | apply below_alloc | apply pw_below_drewN | apply below_drew1 | refine below_set ?_ GE119.out) | exact HB.out)) hb); clear BK119; clear HB; have BK119 := n0_; have HB := n1_; clear n0_ n1_; have hcy1_119_0 := (show World.cell? _ ⟨gb119, 0, none⟩ = some (.int .i64 a0_0) from (blk_cell BK119.out 0).trans rfl); have hcy1_119_1 := (show World.cell? _ ⟨gb119, 1, none⟩ = some (.int .i64 a0_1) from (blk_cell BK119.out 1).trans rfl); have hcy1_119_2 := (show World.cell? _ ⟨gb119, 2, none⟩ = some (.bool a0_2) from (blk_cell BK119.out 2).trans rfl); have hcy1_119_3 := (show World.cell? _ ⟨gb119, 3, none⟩ = some (.bool a0_3) from (blk_cell BK119.out 3).trans rfl); have hcy1_119_4 := (show World.cell? _ ⟨gb119, 4, none⟩ = some (.int .i64 a0_4) from (blk_cell BK119.out 4).trans rfl); have hcy1_119_5 := (show World.cell? _ ⟨gb119, 5, none⟩ = some (.int .i64 a0_5) from (blk_cell BK119.out 5).trans rfl); have hcy1_119_6 := (show World.cell? _ ⟨gb119, 6, none⟩ = some (.int .i64 a0_6) from (blk_cell BK119.out 6).trans rfl); have hcy1_119_7 := (show World.cell? _ ⟨gb119, 7, none⟩ = some (.int .u32 a0_7) from (blk_cell BK119.out 7).trans rfl); have hcy1_119_8 := (show World.cell? _ ⟨gb119, 8, none⟩ = some (.int .u32 a0_8) from (blk_cell BK119.out 8).trans rfl); have hcy1_119_9 := (show World.cell? _ ⟨gb119, 9, none⟩ = some (.string a0_9) from (blk_cell BK119.out 9).trans rfl); (try clear hb); (try clear hb2); (try clear hk); (try clear hi); have hcz24_0 : w23.cell? ⟨gb119, 0, none⟩ = some (.int .i64 a0_0) := (blk_cell BK119.out 0).trans rfl; have hcz24_1 : w23.cell? ⟨gb119, 1, none⟩ = some (.int .i64 a0_1) := (blk_cell BK119.out 1).trans rfl; have hcz24_2 : w23.cell? ⟨gb119, 2, none⟩ = some (.bool a0_2) := (blk_cell BK119.out 2).trans rfl; have hcz24_3 : w23.cell? ⟨gb119, 3, none⟩ = some (.bool a0_3) := (blk_cell BK119.out 3).trans rfl; have hcz24_4 : w23.cell? ⟨gb119, 4, none⟩ = some (.int .i64 a0_4) := (blk_cell BK119.out 4).trans rfl; have hcz24_5 : w23.cell? ⟨gb119, 5, none⟩ = some (.int .i64 a0_5) := (blk_cell BK119.out 5).trans rfl; have hcz24_6 : w23.cell? ⟨gb119, 6, none⟩ = some (.int .i64 a0_6) := (blk_cell BK119.out 6).trans rfl; have hcz24_7 : w23.cell? ⟨gb119, 7, none⟩ = some (.int .u32 a0_7) := (blk_cell BK119.out 7).trans rfl; have hcz24_8 : w23.cell? ⟨gb119, 8, none⟩ = some (.int .u32 a0_8) := (blk_cell BK119.out 8).trans rfl; have hcz24_9 : w23.cell? ⟨gb119, 9, none⟩ = some (.string a0_9) := (blk_cell BK119.out 9).trans rfl; have hfz24_0 := blk_frozen BK119.out 0; have hfz24_1 := blk_frozen BK119.out 1; have hfz24_2 := blk_frozen BK119.out 2; have hfz24_3 := blk_frozen BK119.out 3; have hfz24_4 := blk_frozen BK119.out 4; have hfz24_5 := blk_frozen BK119.out 5; have hfz24_6 := blk_frozen BK119.out 6; have hfz24_7 := blk_frozen BK119.out 7; have hfz24_8 := blk_frozen BK119.out 8; have hfz24_9 := blk_frozen BK119.out 9) | ((with_reducible refine gate_callee (f := 20) rfl ?_); refine goesL_ (some 20) rfl rfl Tryd.func20 (by kernel_rfl) rfl #[.int .u64 (IntKind.u64.wrap (a0_7)), .int .i64 4] rfl (by (try simp only [List.map_toArray, List.map_cons, List.map_nil]); first | done | rfl | (simp only [List.length_drop, List.length_take]; rfl)) ?_; (with_reducible refine (octets_Put.calls k (IntKind.u64.wrap (a0_7)) 4 t121 t122 _ A4.out).mono ?_); rintro e w25 ⟨rfl, hb⟩; refine ⟨_, rfl, ?_⟩; have n0_ := Aside0.mk (blk_below (g := gb119) (o := .cells #[.int .i64 a0_0, .int .i64 a0_1, .bool a0_2, .bool a0_3, .int .i64 a0_4, .int .i64 a0_5, .int .i64 a0_6, .int .u32 a0_7, .int .u32 a0_8, .string a0_9] 24 (0, 0)) (by (with_reducible repeat (first | refine blk_drewN ?_ _ | refine blk_drew ?_ | refine blk_alloc ?_ _)); exact BK119.out) hb); have n1_ := Aside0.mk (below_step (by repeat (first | (with_reducible first | exact HB.out | apply below_alloc | apply pw_below_drewN | apply below_drew1 | refine below_set ?_ GE119.out) | exact HB.out)) hb); clear BK119; clear HB; have BK119 := n0_; have HB := n1_; clear n0_ n1_; have hcy2_119_0 := (show World.cell? _ ⟨gb119, 0, none⟩ = some (.int .i64 a0_0) from (blk_cell BK119.out 0).trans rfl); have hcy2_119_1 := (show World.cell? _ ⟨gb119, 1, none⟩ = some (.int .i64 a0_1) from (blk_cell BK119.out 1).trans rfl); have hcy2_119_2 := (show World.cell? _ ⟨gb119, 2, none⟩ = some (.bool a0_2) from (blk_cell BK119.out 2).trans rfl); have hcy2_119_3 := (show World.cell? _ ⟨gb119, 3, none⟩ = some (.bool a0_3) from (blk_cell BK119.out 3).trans rfl); have hcy2_119_4 := (show World.cell? _ ⟨gb119, 4, none⟩ = some (.int .i64 a0_4) from (blk_cell BK119.out 4).trans rfl); have hcy2_119_5 := (show World.cell? _ ⟨gb119, 5, none⟩ = some (.int .i64 a0_5) from (blk_cell BK119.out 5).trans rfl); have hcy2_119_6 := (show World.cell? _ ⟨gb119, 6, none⟩ = some (.int .i64 a0_6) from (blk_cell BK119.out 6).trans rfl); have hcy2_119_7 := (show World.cell? _ ⟨gb119, 7, none⟩ = some (.int .u32 a0_7) from (blk_cell BK119.out 7).trans rfl); have hcy2_119_8 := (show World.cell? _ ⟨gb119, 8, none⟩ = some (.int .u32 a0_8) from (blk_cell BK119.out 8).trans rfl); have hcy2_119_9 := (show World.cell? _ ⟨gb119, 9, none⟩ = some (.string a0_9) from (blk_cell BK119.out 9).trans rfl); (try clear hb); (try clear hb2); (try clear hk); (try clear hi); have hcz26_0 : w25.cell? ⟨gb119, 0, none⟩ = some (.int .i64 a0_0) := (blk_cell BK119.out 0).trans rfl; have hcz26_1 : w25.cell? ⟨gb119, 1, none⟩ = some (.int .i64 a0_1) := (blk_cell BK119.out 1).trans rfl; have hcz26_2 : w25.cell? ⟨gb119, 2, none⟩ = some (.bool a0_2) := (blk_cell BK119.out 2).trans rfl; have hcz26_3 : w25.cell? ⟨gb119, 3, none⟩ = some (.bool a0_3) := (blk_cell BK119.out 3).trans rfl; have hcz26_4 : w25.cell? ⟨gb119, 4, none⟩ = some (.int .i64 a0_4) := (blk_cell BK119.out 4).trans rfl; have hcz26_5 : w25.cell? ⟨gb119, 5, none⟩ = some (.int .i64 a0_5) := (blk_cell BK119.out 5).trans rfl; have hcz26_6 : w25.cell? ⟨gb119, 6, none⟩ = some (.int .i64 a0_6) := (blk_cell BK119.out 6).trans rfl; have hcz26_7 : w25.cell? ⟨gb119, 7, none⟩ = some (.int .u32 a0_7) := (blk_cell BK119.out 7).trans rfl; have hcz26_8 : w25.cell? ⟨gb119, 8, none⟩ = some (.int .u32 a0_8) := (blk_cell BK119.out 8).trans rfl; have hcz26_9 : w25.cell? ⟨gb119, 9, none⟩ = some (.string a0_9) := (blk_cell BK119.out 9).trans rfl; have hfz26_0 := blk_frozen BK119.out 0; have hfz26_1 := blk_frozen BK119.out 1; have hfz26_2 := blk_frozen BK119.out 2; have hfz26_3 := blk_frozen BK119.out 3; have hfz26_4 := blk_frozen BK119.out 4; have hfz26_5 := blk_frozen BK119.out 5; have hfz26_6 := blk_frozen BK119.out 6; have hfz26_7 := blk_frozen BK119.out 7; have hfz26_8 := blk_frozen BK119.out 8; have hfz26_9 := blk_frozen BK119.out 9) | ((with_reducible refine gate_callee (f := 20) rfl ?_); refine goesL_ (some 27) rfl rfl Tryd.func20 (by kernel_rfl) rfl #[.int .u64 (IntKind.u64.wrap (a0_8)), .int .i64 4] rfl (by (try simp only [List.map_toArray, List.map_cons, List.map_nil]); first | done | rfl | (simp only [List.length_drop, List.length_take]; rfl)) ?_; (with_reducible refine (octets_Put.calls k (IntKind.u64.wrap (a0_8)) 4 t123 t124 _ A5.out).mono ?_); rintro e w27 ⟨rfl, hb⟩; refine ⟨_, rfl, ?_⟩; have n0_ := Aside0.mk (blk_below (g := gb119) (o := .cells #[.int .i64 a0_0, .int .i64 a0_1, .bool a0_2, .bool a0_3, .int .i64 a0_4, .int .i64 a0_5, .int .i64 a0_6, .int .u32 a0_7, .int .u32 a0_8, .string a0_9] 24 (0, 0)) (by (with_reducible repeat (first | refine blk_drewN ?_ _ | refine blk_drew ?_ | refine blk_alloc ?_ _)); exact BK119.out) hb); have n1_ := Aside0.mk (below_step (by repeat (first | (with_reducible first | exact HB.out | apply below_alloc | apply pw_below_drewN | apply below_drew1 | refine below_set ?_ GE119.out) | exact HB.out)) hb); clear BK119; clear HB; have BK119 := n0_; have HB := n1_; clear n0_ n1_; have hcy3_119_0 := (show World.cell? _ ⟨gb119, 0, none⟩ = some (.int .i64 a0_0) from (blk_cell BK119.out 0).trans rfl); have hcy3_119_1 := (show World.cell? _ ⟨gb119, 1, none⟩ = some (.int .i64 a0_1) from (blk_cell BK119.out 1).trans rfl); have hcy3_119_2 := (show World.cell? _ ⟨gb119, 2, none⟩ = some (.bool a0_2) from (blk_cell BK119.out 2).trans rfl); have hcy3_119_3 := (show World.cell? _ ⟨gb119, 3, none⟩ = some (.bool a0_3) from (blk_cell BK119.out 3).trans rfl); have hcy3_119_4 := (show World.cell? _ ⟨gb119, 4, none⟩ = some (.int .i64 a0_4) from (blk_cell BK119.out 4).trans rfl); have hcy3_119_5 := (show World.cell? _ ⟨gb119, 5, none⟩ = some (.int .i64 a0_5) from (blk_cell BK119.out 5).trans rfl); have hcy3_119_6 := (show World.cell? _ ⟨gb119, 6, none⟩ = some (.int .i64 a0_6) from (blk_cell BK119.out 6).trans rfl); have hcy3_119_7 := (show World.cell? _ ⟨gb119, 7, none⟩ = some (.int .u32 a0_7) from (blk_cell BK119.out 7).trans rfl); have hcy3_119_8 := (show World.cell? _ ⟨gb119, 8, none⟩ = some (.int .u32 a0_8) from (blk_cell BK119.out 8).trans rfl); have hcy3_119_9 := (show World.cell? _ ⟨gb119, 9, none⟩ = some (.string a0_9) from (blk_cell BK119.out 9).trans rfl); (try clear hb); (try clear hb2); (try clear hk); (try clear hi)))
          have n0_ := Aside0.mk (blk_drew BK119.out)
          have n1_ := Aside0.mk (below_drew1 HB.out)
          clear BK119
          clear HB
          have BK119 := n0_
          have HB := n1_
          clear n0_ n1_
          refine start_ (n := 29) (S := fun w' => True) (ds := []) #[false, false, false, false, false, false, false, false, false, false, false, false, false, false, false, false, false, false, false, false, false, false, false, false, false, false, false, false, false] (by kernel_rfl) rfl rfl trivial (fun hHeld => ?_); refine with_tabW inet_Build.tab6 inet_Build.bits6 (fun HT_ HW_ => ?_)
          generalize w27.drew = w28 at BK119 HB hHeld ⊢
          refine pure_ (i := 0) (N := some 30) (v := ?_) (a' := ?_) #[true, false, false, false, false, false, false, false, false, false, false, false, false, false, false, false, false, false, false, false, false, false, false, false, false, false, false, false, false] rfl rfl (any_of HT_.out (by kernel_rfl)) (fun _ _ _ h => h) (Or.inl ⟨by rfl, ?_⟩) ?_ ?_
          rotate_left
          ·intro w'
           go_simp
           with_reducible rfl
          rotate_left
          ·simp only [Act.put, List.setIfInBounds_toArray, List.set_cons_zero, List.set_cons_succ, i64_w, i32_w]
           rfl
          refine pure_ (i := 5) (N := some 35) (v := ?_) (a' := ?_) #[true, false, false, false, false, true, false, false, false, false, false, false, false, false, false, false, false, false, false, false, false, false, false, false, false, false, false, false, false] rfl rfl (any_of HT_.out (by kernel_rfl)) (fun _ _ _ h => h) (Or.inl ⟨by rfl, ?_⟩) ?_ ?_
          rotate_left
          ·intro w'
           go_simp
           with_reducible rfl
          rotate_left
          ·simp only [Act.put, List.setIfInBounds_toArray, List.set_cons_zero, List.set_cons_succ, i64_w, i32_w]
           rfl
          refine pure_ (i := 11) (N := some 41) (v := ?_) (a' := ?_) #[true, false, false, false, false, true, false, false, false, false, false, true, false, false, false, false, false, false, false, false, false, false, false, false, false, false, false, false, false] rfl rfl (any_of HT_.out (by kernel_rfl)) (fun _ _ _ h => h) (Or.inl ⟨by rfl, ?_⟩) ?_ ?_
          rotate_left
          ·intro w'
           go_simp
           with_reducible rfl
          rotate_left
          ·simp only [Act.put, List.setIfInBounds_toArray, List.set_cons_zero, List.set_cons_succ, i64_w, i32_w]
           rfl
          refine pure_ (i := 19) (N := some 49) (v := ?_) (a' := ?_) #[true, false, false, false, false, true, false, false, false, false, false, true, false, false, false, false, false, false, false, true, false, false, false, false, false, false, false, false, false] rfl rfl (any_of HT_.out (by kernel_rfl)) (fun _ _ _ h => h) (Or.inl ⟨by rfl, ?_⟩) ?_ ?_
          rotate_left
          ·intro w'
           go_simp
           with_reducible rfl
          rotate_left
          ·simp only [Act.put, List.setIfInBounds_toArray, List.set_cons_zero, List.set_cons_succ, i64_w, i32_w]
           rfl
          refine pure_ (i := 22) (N := some 52) (v := ?_) (a' := ?_) #[true, false, false, false, false, true, false, false, false, false, false, true, false, false, false, false, false, false, false, true, false, false, true, false, false, false, false, false, false] rfl rfl (any_of HT_.out (by kernel_rfl)) (fun _ _ _ h => h) (Or.inl ⟨by rfl, ?_⟩) ?_ ?_
          rotate_left
          ·intro w'
           go_simp
           with_reducible rfl
          rotate_left
          ·simp only [Act.put, List.setIfInBounds_toArray, List.set_cons_zero, List.set_cons_succ, i64_w, i32_w]
           rfl
          refine inv_at [1, 2, 3, 4, 6, 7, 8, 9, 10, 12, 13, 14, 15, 16, 17, 18, 20, 21, 23, 24, 25, 26, 27, 28] (fun a0_ b a w' => ∃ (v126 : Value) (v133 : Value), a = putSel a0_ b [(1, 31, .int .i64 a0_0), (2, 32, .int .u8 ((a0_0) % 256)), (3, 33, v126), (4, 34, .string (strOfNums y125)), (6, 36, .string a0_9), (7, 37, .int .i64 (a0_9.size : Int)), (8, 38, .int .i64 (wrap64 (20 + (a0_9.size : Int)))), (9, 39, .string t128), (10, 40, .string ((strOfNums y125) ++ t128)), (12, 42, .int .i64 a0_1), (13, 43, .string t129), (14, 44, .string (((strOfNums y125) ++ t128) ++ t129)), (15, 45, .agg #[.int .i64 a0_0, .int .i64 a0_1, .bool a0_2, .bool a0_3, .int .i64 a0_4, .int .i64 a0_5, .int .i64 a0_6, .int .u32 a0_7, .int .u32 a0_8, .string a0_9]), (16, 46, .int .i64 t130), (17, 47, .string t131), (18, 48, .string ((((strOfNums y125) ++ t128) ++ t129) ++ t131)), (20, 50, .int .i64 a0_5), (21, 51, .int .u8 ((a0_5) % 256)), (23, 53, .int .i64 a0_6), (24, 54, .int .u8 ((a0_6) % 256)), (25, 55, v133), (26, 56, .string (strOfNums y132)), (27, 57, .string (((((strOfNums y125) ++ t128) ++ t129) ++ t131) ++ (strOfNums y132))), (28, 9, .string (((((strOfNums y125) ++ t128) ++ t129) ++ t131) ++ (strOfNums y132)))] ∧ (w'.heap[gb119]? = some (.cells #[.int .i64 a0_0, .int .i64 a0_1, .bool a0_2, .bool a0_3, .int .i64 a0_4, .int .i64 a0_5, .int .i64 a0_6, .int .u32 a0_7, .int .u32 a0_8, .string a0_9] 24 (0, 0))) ∧ (Below w.heap.size w w') ∧ (b 3 = true → Kd.R (Kd.int .u8) 5 w' w.heap.size (fun _ => True) v126 y125) ∧ (b 25 = true → Kd.R (Kd.int .u8) 5 w' w.heap.size (fun _ => True) v133 y132)) HT_.out HW_.out (by kernel_rfl) (by kernel_rfl) ?_ ?_ ?_
          ·exact ⟨.bool false, .bool false, by simp only [putSel, Bool.false_eq_true, if_false], BK119.out, HB.out, fun h_ => absurd h_ (by decide), fun h_ => absurd h_ (by decide)⟩
          ·skip
           clear BK119 HB
           refine steps_cons ?_ ?_
           ·rintro b a w' ⟨v126, v133, ha, Q_BK119, Q_HB, Q_HO127, Q_HO134⟩ hb_ hon hoff
            refine ⟨_, rfl, fun K hK => ?_⟩
            have e30 : a.tmps[30]? = some (.pointer (some ⟨gb119, 0, none⟩)) := by rw [ha]; exact (putSel_off rfl).trans rfl
            replace ha := Aside0.mk ha
            have BK119 := Aside0.mk Q_BK119
            have HB := Aside0.mk Q_HB
            have hc0_ : w'.cell? ⟨gb119, 0, none⟩ = some (.int .i64 a0_0) := (blk_cell BK119.out 0).trans rfl
            have hc1_ : w'.cell? ⟨gb119, 1, none⟩ = some (.int .i64 a0_1) := (blk_cell BK119.out 1).trans rfl
            have hc2_ : w'.cell? ⟨gb119, 2, none⟩ = some (.bool a0_2) := (blk_cell BK119.out 2).trans rfl
            have hc3_ : w'.cell? ⟨gb119, 3, none⟩ = some (.bool a0_3) := (blk_cell BK119.out 3).trans rfl
            have hc4_ : w'.cell? ⟨gb119, 4, none⟩ = some (.int .i64 a0_4) := (blk_cell BK119.out 4).trans rfl
            have hc5_ : w'.cell? ⟨gb119, 5, none⟩ = some (.int .i64 a0_5) := (blk_cell BK119.out 5).trans rfl
            have hc6_ : w'.cell? ⟨gb119, 6, none⟩ = some (.int .i64 a0_6) := (blk_cell BK119.out 6).trans rfl
            have hc7_ : w'.cell? ⟨gb119, 7, none⟩ = some (.int .u32 a0_7) := (blk_cell BK119.out 7).trans rfl
            have hc8_ : w'.cell? ⟨gb119, 8, none⟩ = some (.int .u32 a0_8) := (blk_cell BK119.out 8).trans rfl
            have hc9_ : w'.cell? ⟨gb119, 9, none⟩ = some (.string a0_9) := (blk_cell BK119.out 9).trans rfl
            refine value_ (w1 := w') (v := .int .i64 a0_0) (by rfl) rfl ?_ ?_
            ·go_simp
             (try simp only [i64_w])
             try rfl
            refine hK.out _ _ ⟨v126, v133, (by rw [ha.out]; exact putSel_upk 0 hb_ rfl rfl rfl), Q_BK119, Q_HB, fun h0_ => absurd ((hoff 3 (by kernel_rfl)).symm.trans h0_) (by decide), Q_HO134⟩
           refine steps_cons ?_ ?_
           ·rintro b a w' ⟨v126, v133, ha, Q_BK119, Q_HB, Q_HO127, Q_HO134⟩ hb_ hon hoff
            refine ⟨_, rfl, fun K hK => ?_⟩
            have e31 : a.tmps[31]? = some (.int .i64 a0_0) := by rw [ha]; exact putSel_on (e := (1, 31, .int .i64 a0_0)) 0 rfl rfl (hon 1 (by kernel_rfl)) rfl
            replace ha := Aside0.mk ha
            have BK119 := Aside0.mk Q_BK119
            have HB := Aside0.mk Q_HB
            refine value_ (w1 := w') (v := .int .u8 ((a0_0) % 256)) (by rfl) rfl ?_ ?_
            ·go_simp
             (try simp only [i64_w])
             try rfl
            refine hK.out _ _ ⟨v126, v133, (by rw [ha.out]; exact putSel_upk 1 hb_ rfl rfl rfl), Q_BK119, Q_HB, fun h0_ => absurd ((hoff 3 (by kernel_rfl)).symm.trans h0_) (by decide), Q_HO134⟩
           refine steps_cons ?_ ?_
           ·rintro b a w' ⟨v126, v133, ha, Q_BK119, Q_HB, Q_HO127, Q_HO134⟩ hb_ hon hoff
            refine ⟨_, rfl, fun K hK => ?_⟩
            have e32 : a.tmps[32]? = some (.int .u8 ((a0_0) % 256)) := by rw [ha]; exact putSel_on (e := (2, 32, .int .u8 ((a0_0) % 256))) 1 rfl rfl (hon 2 (by kernel_rfl)) rfl
            replace ha := Aside0.mk ha
            have BK119 := Aside0.mk Q_BK119
            have HB := Aside0.mk Q_HB
            refine Kd.R_lit_step (Kd.int .u8) _ 5 ?hg (N := 33) ?hd (xs := ([69, (a0_0) % 256] : List Int)) (inner := [.int .u8 69, .int .u8 ((a0_0) % 256)]) (ok := fun _ => True) (okp := fun _ => True) ?hr ?hp (fun _ hk => hk) trivial (Below.refl _ _) (Nat.le_refl _) (by simp) ?_; (case hd => rfl); (case hg => rfl); (case hr => first | (go_simp; done) | (go_simp; rfl)); (case hp => exact (Reps.one (show Kd.M (Kd.int .u8) _ _ _ 69 [.int .u8 69] from rfl) (Reps.one (show Kd.M (Kd.int .u8) _ _ _ ((a0_0) % 256) [.int .u8 ((a0_0) % 256)] from rfl) (Reps.none _ _))))
            intro v126 w29 ho30 hb hg_ hnew_
            clear hg_ hnew_
            (first | rw [← Ny125.out] at ho30 | (simp only [Int.reduceToNat] at ho30; rw [← Ny125.out] at ho30))
            have n0_ := Aside0.mk (Kd.R_lower ho30 (below_size (by repeat (first | (with_reducible first | exact HB.out | apply below_alloc | apply pw_below_drewN | apply below_drew1 | refine below_set ?_ GE119.out) | exact HB.out))))
            have n1_ := Aside0.mk (blk_below (g := gb119) (o := .cells #[.int .i64 a0_0, .int .i64 a0_1, .bool a0_2, .bool a0_3, .int .i64 a0_4, .int .i64 a0_5, .int .i64 a0_6, .int .u32 a0_7, .int .u32 a0_8, .string a0_9] 24 (0, 0)) (by (with_reducible repeat (first | refine blk_drewN ?_ _ | refine blk_drew ?_ | refine blk_alloc ?_ _)); exact BK119.out) hb)
            have n2_ := Aside0.mk (below_step (by repeat (first | (with_reducible first | exact HB.out | apply below_alloc | apply pw_below_drewN | apply below_drew1 | refine below_set ?_ GE119.out) | exact HB.out)) hb)
            have z_HO134 := fun (h0_ : b 25 = true) => (show Kd.R (Kd.int .u8) 5 w29 w.heap.size (fun _ => True) v133 y132 from by first | exact (Kd.R_elder' (by (with_reducible repeat (first | apply Kd.R_alloc | apply Kd.R_drewN | apply Kd.R_drew)); exact (Q_HO134 h0_)) (Kd.R_base ho30) hb) | exact Kd.R_mono (Kd.R_elder' (by (with_reducible repeat (first | apply Kd.R_alloc | apply Kd.R_drewN | apply Kd.R_drew)); exact (Q_HO134 h0_)) (Kd.R_base ho30) hb) (fun _ h_ => by first | trivial | exact h_ | exact h_.1))
            clear BK119
            clear HB
            have HO127 := n0_
            have BK119 := n1_
            have HB := n2_
            clear n0_ n1_ n2_
            clear hb ho30
            refine hK.out _ _ ⟨v126, v133, (by rw [ha.out]; exact putSel_upk 2 hb_ rfl rfl rfl), (by (with_reducible repeat (first | refine blk_drewN ?_ _ | refine blk_drew ?_ | refine blk_alloc ?_ _)); exact BK119.out), (by repeat (first | (with_reducible first | exact HB.out | apply below_alloc | apply pw_below_drewN | apply below_drew1 | refine below_set ?_ GE119.out) | exact HB.out)), fun _ => (by (with_reducible repeat (first | apply Kd.R_alloc | apply Kd.R_drewN | apply Kd.R_drew)); exact HO127.out), z_HO134⟩
           refine steps_cons ?_ ?_
           ·rintro b a w' ⟨v126, v133, ha, Q_BK119, Q_HB, Q_HO127, Q_HO134⟩ hb_ hon hoff
            refine ⟨_, rfl, fun K hK => ?_⟩
            have e33 : a.tmps[33]? = some (v126) := by rw [ha]; exact putSel_on (e := (3, 33, v126)) 2 rfl rfl (hon 3 (by kernel_rfl)) rfl
            replace ha := Aside0.mk ha
            have BK119 := Aside0.mk Q_BK119
            have HB := Aside0.mk Q_HB
            have HO127 := Aside0.mk (Q_HO127 (hon 3 (by kernel_rfl)))
            obtain ⟨Ao4_0, co4_0, eo_⟩ := Kd.R_slice HO127.out
            subst eo_
            have hcv4_ := own_string (P := Tryd.prog) Tryd.underlying38 Tryd.underlying5 Tryd.underlying9 (Kd.own_of_R HO127.out)
            refine value_ (w1 := w') (v := .string (strOfNums y125)) (by rfl) rfl ?_ ?_
            ·go_simp
             (try simp only [i64_w])
             try rfl
            refine hK.out _ _ ⟨.slice Ao4_0 y125.length co4_0, v133, (by rw [ha.out]; exact putSel_upk 3 hb_ rfl rfl rfl), Q_BK119, Q_HB, Q_HO127, Q_HO134⟩
           refine steps_cons ?_ ?_
           ·rintro b a w' ⟨v126, v133, ha, Q_BK119, Q_HB, Q_HO127, Q_HO134⟩ hb_ hon hoff
            refine ⟨_, rfl, fun K hK => ?_⟩
            have e35 : a.tmps[35]? = some (.pointer (some ⟨gb119, 9, none⟩)) := by rw [ha]; exact (putSel_off rfl).trans rfl
            replace ha := Aside0.mk ha
            have BK119 := Aside0.mk Q_BK119
            have HB := Aside0.mk Q_HB
            have hc0_ : w'.cell? ⟨gb119, 0, none⟩ = some (.int .i64 a0_0) := (blk_cell BK119.out 0).trans rfl
            have hc1_ : w'.cell? ⟨gb119, 1, none⟩ = some (.int .i64 a0_1) := (blk_cell BK119.out 1).trans rfl
            have hc2_ : w'.cell? ⟨gb119, 2, none⟩ = some (.bool a0_2) := (blk_cell BK119.out 2).trans rfl
            have hc3_ : w'.cell? ⟨gb119, 3, none⟩ = some (.bool a0_3) := (blk_cell BK119.out 3).trans rfl
            have hc4_ : w'.cell? ⟨gb119, 4, none⟩ = some (.int .i64 a0_4) := (blk_cell BK119.out 4).trans rfl
            have hc5_ : w'.cell? ⟨gb119, 5, none⟩ = some (.int .i64 a0_5) := (blk_cell BK119.out 5).trans rfl
            have hc6_ : w'.cell? ⟨gb119, 6, none⟩ = some (.int .i64 a0_6) := (blk_cell BK119.out 6).trans rfl
            have hc7_ : w'.cell? ⟨gb119, 7, none⟩ = some (.int .u32 a0_7) := (blk_cell BK119.out 7).trans rfl
            have hc8_ : w'.cell? ⟨gb119, 8, none⟩ = some (.int .u32 a0_8) := (blk_cell BK119.out 8).trans rfl
            have hc9_ : w'.cell? ⟨gb119, 9, none⟩ = some (.string a0_9) := (blk_cell BK119.out 9).trans rfl
            refine value_ (w1 := w') (v := .string a0_9) (by rfl) rfl ?_ ?_
            ·go_simp
             (try simp only [i64_w])
             try rfl
            refine hK.out _ _ ⟨v126, v133, (by rw [ha.out]; exact putSel_upk 4 hb_ rfl rfl rfl), Q_BK119, Q_HB, Q_HO127, Q_HO134⟩
           refine steps_cons ?_ ?_
           ·rintro b a w' ⟨v126, v133, ha, Q_BK119, Q_HB, Q_HO127, Q_HO134⟩ hb_ hon hoff
            refine ⟨_, rfl, fun K hK => ?_⟩
            have e36 : a.tmps[36]? = some (.string a0_9) := by rw [ha]; exact putSel_on (e := (6, 36, .string a0_9)) 4 rfl rfl (hon 6 (by kernel_rfl)) rfl
            replace ha := Aside0.mk ha
            have BK119 := Aside0.mk Q_BK119
            have HB := Aside0.mk Q_HB
            refine value_ (w1 := w') (v := .int .i64 (a0_9.size : Int)) (by rfl) rfl ?_ ?_
            ·go_simp
             (try simp only [i64_w])
             try rfl
            refine hK.out _ _ ⟨v126, v133, (by rw [ha.out]; exact putSel_upk 5 hb_ rfl rfl rfl), Q_BK119, Q_HB, Q_HO127, Q_HO134⟩
           refine steps_cons ?_ ?_
           ·rintro b a w' ⟨v126, v133, ha, Q_BK119, Q_HB, Q_HO127, Q_HO134⟩ hb_ hon hoff
            refine ⟨_, rfl, fun K hK => ?_⟩
            have e37 : a.tmps[37]? = some (.int .i64 (a0_9.size : Int)) := by rw [ha]; exact putSel_on (e := (7, 37, .int .i64 (a0_9.size : Int))) 5 rfl rfl (hon 7 (by kernel_rfl)) rfl
            replace ha := Aside0.mk ha
            have BK119 := Aside0.mk Q_BK119
            have HB := Aside0.mk Q_HB
            refine value_ (w1 := w') (v := .int .i64 (wrap64 (20 + (a0_9.size : Int)))) (by rfl) rfl ?_ ?_
            ·go_simp
             (try simp only [i64_w])
             try rfl
            refine hK.out _ _ ⟨v126, v133, (by rw [ha.out]; exact putSel_upk 6 hb_ rfl rfl rfl), Q_BK119, Q_HB, Q_HO127, Q_HO134⟩
           refine steps_cons ?_ ?_
           ·rintro b a w' ⟨v126, v133, ha, Q_BK119, Q_HB, Q_HO127, Q_HO134⟩ hb_ hon hoff
            refine ⟨_, rfl, fun K hK => ?_⟩
            have e38 : a.tmps[38]? = some (.int .i64 (wrap64 (20 + (a0_9.size : Int)))) := by rw [ha]; exact putSel_on (e := (8, 38, .int .i64 (wrap64 (20 + (a0_9.size : Int))))) 6 rfl rfl (hon 8 (by kernel_rfl)) rfl
            replace ha := Aside0.mk ha
            have BK119 := Aside0.mk Q_BK119
            have HB := Aside0.mk Q_HB
            refine goes_ Tryd.func21 (by kernel_rfl) rfl #[.int .i64 (wrap64 (20 + (a0_9.size : Int)))] (by first | rfl | exact wanted_on rfl rfl rfl (by first | rfl | (simp [*]; done) | (simp [*, IntKind.wrap_u32]; done))) rfl rfl (by first | (simp only [List.map_toArray, List.map_cons, List.map_nil, Act.eval, Array.getD_eq_getD_getElem?, Option.getD_some, e38]; done) | (simp only [List.map_toArray, List.map_cons, List.map_nil, Act.eval, Array.getD_eq_getD_getElem?, Option.getD_some, e38]; rfl)) ?_
            with_reducible refine (inet_word.calls k (wrap64 (20 + (a0_9.size : Int))) t128 _ A6.out).mono ?_
            rintro e w29 ⟨rfl, hb⟩
            refine ⟨_, rfl, ?_⟩
            have n0_ := Aside0.mk (blk_below (g := gb119) (o := .cells #[.int .i64 a0_0, .int .i64 a0_1, .bool a0_2, .bool a0_3, .int .i64 a0_4, .int .i64 a0_5, .int .i64 a0_6, .int .u32 a0_7, .int .u32 a0_8, .string a0_9] 24 (0, 0)) (by (with_reducible repeat (first | refine blk_drewN ?_ _ | refine blk_drew ?_ | refine blk_alloc ?_ _)); exact BK119.out) hb)
            have n1_ := Aside0.mk (below_step (by repeat (first | (with_reducible first | exact HB.out | apply below_alloc | apply pw_below_drewN | apply below_drew1 | refine below_set ?_ GE119.out) | exact HB.out)) hb)
            have z_HO127 := fun (h0_ : b 3 = true) => (show Kd.R (Kd.int .u8) 5 w29 w.heap.size (fun _ => True) v126 y125 from by first | exact (Kd.R_below (by (with_reducible repeat (first | apply Kd.R_alloc | apply Kd.R_drewN | apply Kd.R_drew)); exact (Q_HO127 h0_)) hb) | exact Kd.R_mono (Kd.R_below (by (with_reducible repeat (first | apply Kd.R_alloc | apply Kd.R_drewN | apply Kd.R_drew)); exact (Q_HO127 h0_)) hb) (fun _ h_ => by first | trivial | exact h_ | exact h_.1))
            have z_HO134 := fun (h0_ : b 25 = true) => (show Kd.R (Kd.int .u8) 5 w29 w.heap.size (fun _ => True) v133 y132 from by first | exact (Kd.R_below (by (with_reducible repeat (first | apply Kd.R_alloc | apply Kd.R_drewN | apply Kd.R_drew)); exact (Q_HO134 h0_)) hb) | exact Kd.R_mono (Kd.R_below (by (with_reducible repeat (first | apply Kd.R_alloc | apply Kd.R_drewN | apply Kd.R_drew)); exact (Q_HO134 h0_)) hb) (fun _ h_ => by first | trivial | exact h_ | exact h_.1))
            clear BK119
            clear HB
            have BK119 := n0_
            have HB := n1_
            clear n0_ n1_
            (try clear hb)
            (try clear hb2)
            (try clear hk)
            (try clear hi)
            refine hK.out _ _ ⟨v126, v133, (by rw [ha.out]; exact putSel_upk 7 hb_ rfl rfl rfl), (by (with_reducible repeat (first | refine blk_drewN ?_ _ | refine blk_drew ?_ | refine blk_alloc ?_ _)); exact BK119.out), (by repeat (first | (with_reducible first | exact HB.out | apply below_alloc | apply pw_below_drewN | apply below_drew1 | refine below_set ?_ GE119.out) | exact HB.out)), z_HO127, z_HO134⟩
           refine steps_cons ?_ ?_
           ·rintro b a w' ⟨v126, v133, ha, Q_BK119, Q_HB, Q_HO127, Q_HO134⟩ hb_ hon hoff
            refine ⟨_, rfl, fun K hK => ?_⟩
            have e34 : a.tmps[34]? = some (.string (strOfNums y125)) := by rw [ha]; exact putSel_on (e := (4, 34, .string (strOfNums y125))) 3 rfl rfl (hon 4 (by kernel_rfl)) rfl
            have e39 : a.tmps[39]? = some (.string t128) := by rw [ha]; exact putSel_on (e := (9, 39, .string t128)) 7 rfl rfl (hon 9 (by kernel_rfl)) rfl
            replace ha := Aside0.mk ha
            have BK119 := Aside0.mk Q_BK119
            have HB := Aside0.mk Q_HB
            have HO127 := Aside0.mk (Q_HO127 (hon 3 (by kernel_rfl)))
            refine value_ (w1 := w') (v := .string ((strOfNums y125) ++ t128)) (by rfl) rfl ?_ ?_
            ·go_simp
             (try simp only [i64_w])
             try rfl
            refine hK.out _ _ ⟨v126, v133, (by rw [ha.out]; exact putSel_upk 8 hb_ rfl rfl rfl), Q_BK119, Q_HB, Q_HO127, Q_HO134⟩
           refine steps_cons ?_ ?_
           ·rintro b a w' ⟨v126, v133, ha, Q_BK119, Q_HB, Q_HO127, Q_HO134⟩ hb_ hon hoff
            refine ⟨_, rfl, fun K hK => ?_⟩
            have e41 : a.tmps[41]? = some (.pointer (some ⟨gb119, 1, none⟩)) := by rw [ha]; exact (putSel_off rfl).trans rfl
            replace ha := Aside0.mk ha
            have BK119 := Aside0.mk Q_BK119
            have HB := Aside0.mk Q_HB
            have hc0_ : w'.cell? ⟨gb119, 0, none⟩ = some (.int .i64 a0_0) := (blk_cell BK119.out 0).trans rfl
            have hc1_ : w'.cell? ⟨gb119, 1, none⟩ = some (.int .i64 a0_1) := (blk_cell BK119.out 1).trans rfl
            have hc2_ : w'.cell? ⟨gb119, 2, none⟩ = some (.bool a0_2) := (blk_cell BK119.out 2).trans rfl
            have hc3_ : w'.cell? ⟨gb119, 3, none⟩ = some (.bool a0_3) := (blk_cell BK119.out 3).trans rfl
            have hc4_ : w'.cell? ⟨gb119, 4, none⟩ = some (.int .i64 a0_4) := (blk_cell BK119.out 4).trans rfl
            have hc5_ : w'.cell? ⟨gb119, 5, none⟩ = some (.int .i64 a0_5) := (blk_cell BK119.out 5).trans rfl
            have hc6_ : w'.cell? ⟨gb119, 6, none⟩ = some (.int .i64 a0_6) := (blk_cell BK119.out 6).trans rfl
            have hc7_ : w'.cell? ⟨gb119, 7, none⟩ = some (.int .u32 a0_7) := (blk_cell BK119.out 7).trans rfl
            have hc8_ : w'.cell? ⟨gb119, 8, none⟩ = some (.int .u32 a0_8) := (blk_cell BK119.out 8).trans rfl
            have hc9_ : w'.cell? ⟨gb119, 9, none⟩ = some (.string a0_9) := (blk_cell BK119.out 9).trans rfl
            refine value_ (w1 := w') (v := .int .i64 a0_1) (by rfl) rfl ?_ ?_
            ·go_simp
             (try simp only [i64_w])
             try rfl
            refine hK.out _ _ ⟨v126, v133, (by rw [ha.out]; exact putSel_upk 9 hb_ rfl rfl rfl), Q_BK119, Q_HB, Q_HO127, Q_HO134⟩
           refine steps_cons ?_ ?_
           ·rintro b a w' ⟨v126, v133, ha, Q_BK119, Q_HB, Q_HO127, Q_HO134⟩ hb_ hon hoff
            refine ⟨_, rfl, fun K hK => ?_⟩
            have e42 : a.tmps[42]? = some (.int .i64 a0_1) := by rw [ha]; exact putSel_on (e := (12, 42, .int .i64 a0_1)) 9 rfl rfl (hon 12 (by kernel_rfl)) rfl
            replace ha := Aside0.mk ha
            have BK119 := Aside0.mk Q_BK119
            have HB := Aside0.mk Q_HB
            refine goes_ Tryd.func21 (by kernel_rfl) rfl #[.int .i64 a0_1] (by first | rfl | exact wanted_on rfl rfl rfl (by first | rfl | (simp [*]; done) | (simp [*, IntKind.wrap_u32]; done))) rfl rfl (by first | (simp only [List.map_toArray, List.map_cons, List.map_nil, Act.eval, Array.getD_eq_getD_getElem?, Option.getD_some, e42]; done) | (simp only [List.map_toArray, List.map_cons, List.map_nil, Act.eval, Array.getD_eq_getD_getElem?, Option.getD_some, e42]; rfl)) ?_
            with_reducible refine (inet_word.calls k a0_1 t129 _ A8.out).mono ?_
            rintro e w31 ⟨rfl, hb⟩
            refine ⟨_, rfl, ?_⟩
            have n0_ := Aside0.mk (blk_below (g := gb119) (o := .cells #[.int .i64 a0_0, .int .i64 a0_1, .bool a0_2, .bool a0_3, .int .i64 a0_4, .int .i64 a0_5, .int .i64 a0_6, .int .u32 a0_7, .int .u32 a0_8, .string a0_9] 24 (0, 0)) (by (with_reducible repeat (first | refine blk_drewN ?_ _ | refine blk_drew ?_ | refine blk_alloc ?_ _)); exact BK119.out) hb)
            have n1_ := Aside0.mk (below_step (by repeat (first | (with_reducible first | exact HB.out | apply below_alloc | apply pw_below_drewN | apply below_drew1 | refine below_set ?_ GE119.out) | exact HB.out)) hb)
            have z_HO127 := fun (h0_ : b 3 = true) => (show Kd.R (Kd.int .u8) 5 w31 w.heap.size (fun _ => True) v126 y125 from by first | exact (Kd.R_below (by (with_reducible repeat (first | apply Kd.R_alloc | apply Kd.R_drewN | apply Kd.R_drew)); exact (Q_HO127 h0_)) hb) | exact Kd.R_mono (Kd.R_below (by (with_reducible repeat (first | apply Kd.R_alloc | apply Kd.R_drewN | apply Kd.R_drew)); exact (Q_HO127 h0_)) hb) (fun _ h_ => by first | trivial | exact h_ | exact h_.1))
            have z_HO134 := fun (h0_ : b 25 = true) => (show Kd.R (Kd.int .u8) 5 w31 w.heap.size (fun _ => True) v133 y132 from by first | exact (Kd.R_below (by (with_reducible repeat (first | apply Kd.R_alloc | apply Kd.R_drewN | apply Kd.R_drew)); exact (Q_HO134 h0_)) hb) | exact Kd.R_mono (Kd.R_below (by (with_reducible repeat (first | apply Kd.R_alloc | apply Kd.R_drewN | apply Kd.R_drew)); exact (Q_HO134 h0_)) hb) (fun _ h_ => by first | trivial | exact h_ | exact h_.1))
            clear BK119
            clear HB
            have BK119 := n0_
            have HB := n1_
            clear n0_ n1_
            (try clear hb)
            (try clear hb2)
            (try clear hk)
            (try clear hi)
            refine hK.out _ _ ⟨v126, v133, (by rw [ha.out]; exact putSel_upk 10 hb_ rfl rfl rfl), (by (with_reducible repeat (first | refine blk_drewN ?_ _ | refine blk_drew ?_ | refine blk_alloc ?_ _)); exact BK119.out), (by repeat (first | (with_reducible first | exact HB.out | apply below_alloc | apply pw_below_drewN | apply below_drew1 | refine below_set ?_ GE119.out) | exact HB.out)), z_HO127, z_HO134⟩
           refine steps_cons ?_ ?_
           ·rintro b a w' ⟨v126, v133, ha, Q_BK119, Q_HB, Q_HO127, Q_HO134⟩ hb_ hon hoff
            refine ⟨_, rfl, fun K hK => ?_⟩
            have e40 : a.tmps[40]? = some (.string ((strOfNums y125) ++ t128)) := by rw [ha]; exact putSel_on (e := (10, 40, .string ((strOfNums y125) ++ t128))) 8 rfl rfl (hon 10 (by kernel_rfl)) rfl
            have e43 : a.tmps[43]? = some (.string t129) := by rw [ha]; exact putSel_on (e := (13, 43, .string t129)) 10 rfl rfl (hon 13 (by kernel_rfl)) rfl
            replace ha := Aside0.mk ha
            have BK119 := Aside0.mk Q_BK119
            have HB := Aside0.mk Q_HB
            have HO127 := Aside0.mk (Q_HO127 (hon 3 (by kernel_rfl)))
            refine value_ (w1 := w') (v := .string (((strOfNums y125) ++ t128) ++ t129)) (by rfl) rfl ?_ ?_
            ·go_simp
             (try simp only [i64_w])
             try rfl
            refine hK.out _ _ ⟨v126, v133, (by rw [ha.out]; exact putSel_upk 11 hb_ rfl rfl rfl), Q_BK119, Q_HB, Q_HO127, Q_HO134⟩
           refine steps_cons ?_ ?_
           ·rintro b a w' ⟨v126, v133, ha, Q_BK119, Q_HB, Q_HO127, Q_HO134⟩ hb_ hon hoff
            refine ⟨_, rfl, fun K hK => ?_⟩
            have e1 : a.tmps[1]? = some (.pointer (some ⟨gb119, 0, none⟩)) := by rw [ha]; exact (putSel_off rfl).trans rfl
            replace ha := Aside0.mk ha
            have BK119 := Aside0.mk Q_BK119
            have HB := Aside0.mk Q_HB
            have hc0_ : w'.cell? ⟨gb119, 0, none⟩ = some (.int .i64 a0_0) := (blk_cell BK119.out 0).trans rfl
            have hc1_ : w'.cell? ⟨gb119, 1, none⟩ = some (.int .i64 a0_1) := (blk_cell BK119.out 1).trans rfl
            have hc2_ : w'.cell? ⟨gb119, 2, none⟩ = some (.bool a0_2) := (blk_cell BK119.out 2).trans rfl
            have hc3_ : w'.cell? ⟨gb119, 3, none⟩ = some (.bool a0_3) := (blk_cell BK119.out 3).trans rfl
            have hc4_ : w'.cell? ⟨gb119, 4, none⟩ = some (.int .i64 a0_4) := (blk_cell BK119.out 4).trans rfl
            have hc5_ : w'.cell? ⟨gb119, 5, none⟩ = some (.int .i64 a0_5) := (blk_cell BK119.out 5).trans rfl
            have hc6_ : w'.cell? ⟨gb119, 6, none⟩ = some (.int .i64 a0_6) := (blk_cell BK119.out 6).trans rfl
            have hc7_ : w'.cell? ⟨gb119, 7, none⟩ = some (.int .u32 a0_7) := (blk_cell BK119.out 7).trans rfl
            have hc8_ : w'.cell? ⟨gb119, 8, none⟩ = some (.int .u32 a0_8) := (blk_cell BK119.out 8).trans rfl
            have hc9_ : w'.cell? ⟨gb119, 9, none⟩ = some (.string a0_9) := (blk_cell BK119.out 9).trans rfl
            refine value_ (w1 := w') (v := .agg #[.int .i64 a0_0, .int .i64 a0_1, .bool a0_2, .bool a0_3, .int .i64 a0_4, .int .i64 a0_5, .int .i64 a0_6, .int .u32 a0_7, .int .u32 a0_8, .string a0_9]) (by rfl) rfl ?_ ?_
            ·go_simp
             (try simp only [i64_w])
             try rfl
            refine hK.out _ _ ⟨v126, v133, (by rw [ha.out]; exact putSel_upk 12 hb_ rfl rfl rfl), Q_BK119, Q_HB, Q_HO127, Q_HO134⟩
           refine steps_cons ?_ ?_
           ·rintro b a w' ⟨v126, v133, ha, Q_BK119, Q_HB, Q_HO127, Q_HO134⟩ hb_ hon hoff
            refine ⟨_, rfl, fun K hK => ?_⟩
            have e45 : a.tmps[45]? = some (.agg #[.int .i64 a0_0, .int .i64 a0_1, .bool a0_2, .bool a0_3, .int .i64 a0_4, .int .i64 a0_5, .int .i64 a0_6, .int .u32 a0_7, .int .u32 a0_8, .string a0_9]) := by rw [ha]; exact putSel_on (e := (15, 45, .agg #[.int .i64 a0_0, .int .i64 a0_1, .bool a0_2, .bool a0_3, .int .i64 a0_4, .int .i64 a0_5, .int .i64 a0_6, .int .u32 a0_7, .int .u32 a0_8, .string a0_9])) 12 rfl rfl (hon 15 (by kernel_rfl)) rfl
            replace ha := Aside0.mk ha
            have BK119 := Aside0.mk Q_BK119
            have HB := Aside0.mk Q_HB
            refine goes_ Tryd.func22 (by kernel_rfl) rfl #[.agg #[.int .i64 a0_0, .int .i64 a0_1, .bool a0_2, .bool a0_3, .int .i64 a0_4, .int .i64 a0_5, .int .i64 a0_6, .int .u32 a0_7, .int .u32 a0_8, .string a0_9]] (by first | rfl | exact wanted_on rfl rfl rfl (by first | rfl | (simp [*]; done) | (simp [*, IntKind.wrap_u32]; done))) rfl rfl (by first | (simp only [List.map_toArray, List.map_cons, List.map_nil, Act.eval, Array.getD_eq_getD_getElem?, Option.getD_some, e45]; done) | (simp only [List.map_toArray, List.map_cons, List.map_nil, Act.eval, Array.getD_eq_getD_getElem?, Option.getD_some, e45]; rfl)) ?_
            with_reducible refine (inet_flags.calls a0_0 a0_1 a0_2 a0_3 a0_4 a0_5 a0_6 a0_7 a0_8 a0_9 t130 _ A10.out).mono ?_
            rintro e w32 ⟨rfl, hb⟩
            refine ⟨_, rfl, ?_⟩
            have n0_ := Aside0.mk (blk_below (g := gb119) (o := .cells #[.int .i64 a0_0, .int .i64 a0_1, .bool a0_2, .bool a0_3, .int .i64 a0_4, .int .i64 a0_5, .int .i64 a0_6, .int .u32 a0_7, .int .u32 a0_8, .string a0_9] 24 (0, 0)) (by (with_reducible repeat (first | refine blk_drewN ?_ _ | refine blk_drew ?_ | refine blk_alloc ?_ _)); exact BK119.out) hb)
            have n1_ := Aside0.mk (below_step (by repeat (first | (with_reducible first | exact HB.out | apply below_alloc | apply pw_below_drewN | apply below_drew1 | refine below_set ?_ GE119.out) | exact HB.out)) hb)
            have z_HO127 := fun (h0_ : b 3 = true) => (show Kd.R (Kd.int .u8) 5 w32 w.heap.size (fun _ => True) v126 y125 from by first | exact (Kd.R_below (by (with_reducible repeat (first | apply Kd.R_alloc | apply Kd.R_drewN | apply Kd.R_drew)); exact (Q_HO127 h0_)) hb) | exact Kd.R_mono (Kd.R_below (by (with_reducible repeat (first | apply Kd.R_alloc | apply Kd.R_drewN | apply Kd.R_drew)); exact (Q_HO127 h0_)) hb) (fun _ h_ => by first | trivial | exact h_ | exact h_.1))
            have z_HO134 := fun (h0_ : b 25 = true) => (show Kd.R (Kd.int .u8) 5 w32 w.heap.size (fun _ => True) v133 y132 from by first | exact (Kd.R_below (by (with_reducible repeat (first | apply Kd.R_alloc | apply Kd.R_drewN | apply Kd.R_drew)); exact (Q_HO134 h0_)) hb) | exact Kd.R_mono (Kd.R_below (by (with_reducible repeat (first | apply Kd.R_alloc | apply Kd.R_drewN | apply Kd.R_drew)); exact (Q_HO134 h0_)) hb) (fun _ h_ => by first | trivial | exact h_ | exact h_.1))
            clear BK119
            clear HB
            have BK119 := n0_
            have HB := n1_
            clear n0_ n1_
            (try clear hb)
            (try clear hb2)
            (try clear hk)
            (try clear hi)
            refine hK.out _ _ ⟨v126, v133, (by rw [ha.out]; exact putSel_upk 13 hb_ rfl rfl rfl), (by (with_reducible repeat (first | refine blk_drewN ?_ _ | refine blk_drew ?_ | refine blk_alloc ?_ _)); exact BK119.out), (by repeat (first | (with_reducible first | exact HB.out | apply below_alloc | apply pw_below_drewN | apply below_drew1 | refine below_set ?_ GE119.out) | exact HB.out)), z_HO127, z_HO134⟩
           refine steps_cons ?_ ?_
           ·rintro b a w' ⟨v126, v133, ha, Q_BK119, Q_HB, Q_HO127, Q_HO134⟩ hb_ hon hoff
            refine ⟨_, rfl, fun K hK => ?_⟩
            have e46 : a.tmps[46]? = some (.int .i64 t130) := by rw [ha]; exact putSel_on (e := (16, 46, .int .i64 t130)) 13 rfl rfl (hon 16 (by kernel_rfl)) rfl
            replace ha := Aside0.mk ha
            have BK119 := Aside0.mk Q_BK119
            have HB := Aside0.mk Q_HB
            refine goes_ Tryd.func21 (by kernel_rfl) rfl #[.int .i64 t130] (by first | rfl | exact wanted_on rfl rfl rfl (by first | rfl | (simp [*]; done) | (simp [*, IntKind.wrap_u32]; done))) rfl rfl (by first | (simp only [List.map_toArray, List.map_cons, List.map_nil, Act.eval, Array.getD_eq_getD_getElem?, Option.getD_some, e46]; done) | (simp only [List.map_toArray, List.map_cons, List.map_nil, Act.eval, Array.getD_eq_getD_getElem?, Option.getD_some, e46]; rfl)) ?_
            with_reducible refine (inet_word.calls k t130 t131 _ A11.out).mono ?_
            rintro e w33 ⟨rfl, hb⟩
            refine ⟨_, rfl, ?_⟩
            have n0_ := Aside0.mk (blk_below (g := gb119) (o := .cells #[.int .i64 a0_0, .int .i64 a0_1, .bool a0_2, .bool a0_3, .int .i64 a0_4, .int .i64 a0_5, .int .i64 a0_6, .int .u32 a0_7, .int .u32 a0_8, .string a0_9] 24 (0, 0)) (by (with_reducible repeat (first | refine blk_drewN ?_ _ | refine blk_drew ?_ | refine blk_alloc ?_ _)); exact BK119.out) hb)
            have n1_ := Aside0.mk (below_step (by repeat (first | (with_reducible first | exact HB.out | apply below_alloc | apply pw_below_drewN | apply below_drew1 | refine below_set ?_ GE119.out) | exact HB.out)) hb)
            have z_HO127 := fun (h0_ : b 3 = true) => (show Kd.R (Kd.int .u8) 5 w33 w.heap.size (fun _ => True) v126 y125 from by first | exact (Kd.R_below (by (with_reducible repeat (first | apply Kd.R_alloc | apply Kd.R_drewN | apply Kd.R_drew)); exact (Q_HO127 h0_)) hb) | exact Kd.R_mono (Kd.R_below (by (with_reducible repeat (first | apply Kd.R_alloc | apply Kd.R_drewN | apply Kd.R_drew)); exact (Q_HO127 h0_)) hb) (fun _ h_ => by first | trivial | exact h_ | exact h_.1))
            have z_HO134 := fun (h0_ : b 25 = true) => (show Kd.R (Kd.int .u8) 5 w33 w.heap.size (fun _ => True) v133 y132 from by first | exact (Kd.R_below (by (with_reducible repeat (first | apply Kd.R_alloc | apply Kd.R_drewN | apply Kd.R_drew)); exact (Q_HO134 h0_)) hb) | exact Kd.R_mono (Kd.R_below (by (with_reducible repeat (first | apply Kd.R_alloc | apply Kd.R_drewN | apply Kd.R_drew)); exact (Q_HO134 h0_)) hb) (fun _ h_ => by first | trivial | exact h_ | exact h_.1))
            clear BK119
            clear HB
            have BK119 := n0_
            have HB := n1_
            clear n0_ n1_
            (try clear hb)
            (try clear hb2)
            (try clear hk)
            (try clear hi)
            refine hK.out _ _ ⟨v126, v133, (by rw [ha.out]; exact putSel_upk 14 hb_ rfl rfl rfl), (by (with_reducible repeat (first | refine blk_drewN ?_ _ | refine blk_drew ?_ | refine blk_alloc ?_ _)); exact BK119.out), (by repeat (first | (with_reducible first | exact HB.out | apply below_alloc | apply pw_below_drewN | apply below_drew1 | refine below_set ?_ GE119.out) | exact HB.out)), z_HO127, z_HO134⟩
           refine steps_cons ?_ ?_
           ·rintro b a w' ⟨v126, v133, ha, Q_BK119, Q_HB, Q_HO127, Q_HO134⟩ hb_ hon hoff
            refine ⟨_, rfl, fun K hK => ?_⟩
            have e44 : a.tmps[44]? = some (.string (((strOfNums y125) ++ t128) ++ t129)) := by rw [ha]; exact putSel_on (e := (14, 44, .string (((strOfNums y125) ++ t128) ++ t129))) 11 rfl rfl (hon 14 (by kernel_rfl)) rfl
            have e47 : a.tmps[47]? = some (.string t131) := by rw [ha]; exact putSel_on (e := (17, 47, .string t131)) 14 rfl rfl (hon 17 (by kernel_rfl)) rfl
            replace ha := Aside0.mk ha
            have BK119 := Aside0.mk Q_BK119
            have HB := Aside0.mk Q_HB
            have HO127 := Aside0.mk (Q_HO127 (hon 3 (by kernel_rfl)))
            refine value_ (w1 := w') (v := .string ((((strOfNums y125) ++ t128) ++ t129) ++ t131)) (by rfl) rfl ?_ ?_
            ·go_simp
             (try simp only [i64_w])
             try rfl
            refine hK.out _ _ ⟨v126, v133, (by rw [ha.out]; exact putSel_upk 15 hb_ rfl rfl rfl), Q_BK119, Q_HB, Q_HO127, Q_HO134⟩
           refine steps_cons ?_ ?_
           ·rintro b a w' ⟨v126, v133, ha, Q_BK119, Q_HB, Q_HO127, Q_HO134⟩ hb_ hon hoff
            refine ⟨_, rfl, fun K hK => ?_⟩
            have e49 : a.tmps[49]? = some (.pointer (some ⟨gb119, 5, none⟩)) := by rw [ha]; exact (putSel_off rfl).trans rfl
            replace ha := Aside0.mk ha
            have BK119 := Aside0.mk Q_BK119
            have HB := Aside0.mk Q_HB
            have hc0_ : w'.cell? ⟨gb119, 0, none⟩ = some (.int .i64 a0_0) := (blk_cell BK119.out 0).trans rfl
            have hc1_ : w'.cell? ⟨gb119, 1, none⟩ = some (.int .i64 a0_1) := (blk_cell BK119.out 1).trans rfl
            have hc2_ : w'.cell? ⟨gb119, 2, none⟩ = some (.bool a0_2) := (blk_cell BK119.out 2).trans rfl
            have hc3_ : w'.cell? ⟨gb119, 3, none⟩ = some (.bool a0_3) := (blk_cell BK119.out 3).trans rfl
            have hc4_ : w'.cell? ⟨gb119, 4, none⟩ = some (.int .i64 a0_4) := (blk_cell BK119.out 4).trans rfl
            have hc5_ : w'.cell? ⟨gb119, 5, none⟩ = some (.int .i64 a0_5) := (blk_cell BK119.out 5).trans rfl
            have hc6_ : w'.cell? ⟨gb119, 6, none⟩ = some (.int .i64 a0_6) := (blk_cell BK119.out 6).trans rfl
            have hc7_ : w'.cell? ⟨gb119, 7, none⟩ = some (.int .u32 a0_7) := (blk_cell BK119.out 7).trans rfl
            have hc8_ : w'.cell? ⟨gb119, 8, none⟩ = some (.int .u32 a0_8) := (blk_cell BK119.out 8).trans rfl
            have hc9_ : w'.cell? ⟨gb119, 9, none⟩ = some (.string a0_9) := (blk_cell BK119.out 9).trans rfl
            refine value_ (w1 := w') (v := .int .i64 a0_5) (by rfl) rfl ?_ ?_
            ·go_simp
             (try simp only [i64_w])
             try rfl
            refine hK.out _ _ ⟨v126, v133, (by rw [ha.out]; exact putSel_upk 16 hb_ rfl rfl rfl), Q_BK119, Q_HB, Q_HO127, fun h0_ => absurd ((hoff 25 (by kernel_rfl)).symm.trans h0_) (by decide)⟩
           refine steps_cons ?_ ?_
           ·rintro b a w' ⟨v126, v133, ha, Q_BK119, Q_HB, Q_HO127, Q_HO134⟩ hb_ hon hoff
            refine ⟨_, rfl, fun K hK => ?_⟩
            have e50 : a.tmps[50]? = some (.int .i64 a0_5) := by rw [ha]; exact putSel_on (e := (20, 50, .int .i64 a0_5)) 16 rfl rfl (hon 20 (by kernel_rfl)) rfl
            replace ha := Aside0.mk ha
            have BK119 := Aside0.mk Q_BK119
            have HB := Aside0.mk Q_HB
            refine value_ (w1 := w') (v := .int .u8 ((a0_5) % 256)) (by rfl) rfl ?_ ?_
            ·go_simp
             (try simp only [i64_w])
             try rfl
            refine hK.out _ _ ⟨v126, v133, (by rw [ha.out]; exact putSel_upk 17 hb_ rfl rfl rfl), Q_BK119, Q_HB, Q_HO127, fun h0_ => absurd ((hoff 25 (by kernel_rfl)).symm.trans h0_) (by decide)⟩
           refine steps_cons ?_ ?_
           ·rintro b a w' ⟨v126, v133, ha, Q_BK119, Q_HB, Q_HO127, Q_HO134⟩ hb_ hon hoff
            refine ⟨_, rfl, fun K hK => ?_⟩
            have e52 : a.tmps[52]? = some (.pointer (some ⟨gb119, 6, none⟩)) := by rw [ha]; exact (putSel_off rfl).trans rfl
            replace ha := Aside0.mk ha
            have BK119 := Aside0.mk Q_BK119
            have HB := Aside0.mk Q_HB
            have hc0_ : w'.cell? ⟨gb119, 0, none⟩ = some (.int .i64 a0_0) := (blk_cell BK119.out 0).trans rfl
            have hc1_ : w'.cell? ⟨gb119, 1, none⟩ = some (.int .i64 a0_1) := (blk_cell BK119.out 1).trans rfl
            have hc2_ : w'.cell? ⟨gb119, 2, none⟩ = some (.bool a0_2) := (blk_cell BK119.out 2).trans rfl
            have hc3_ : w'.cell? ⟨gb119, 3, none⟩ = some (.bool a0_3) := (blk_cell BK119.out 3).trans rfl
            have hc4_ : w'.cell? ⟨gb119, 4, none⟩ = some (.int .i64 a0_4) := (blk_cell BK119.out 4).trans rfl
            have hc5_ : w'.cell? ⟨gb119, 5, none⟩ = some (.int .i64 a0_5) := (blk_cell BK119.out 5).trans rfl
            have hc6_ : w'.cell? ⟨gb119, 6, none⟩ = some (.int .i64 a0_6) := (blk_cell BK119.out 6).trans rfl
            have hc7_ : w'.cell? ⟨gb119, 7, none⟩ = some (.int .u32 a0_7) := (blk_cell BK119.out 7).trans rfl
            have hc8_ : w'.cell? ⟨gb119, 8, none⟩ = some (.int .u32 a0_8) := (blk_cell BK119.out 8).trans rfl
            have hc9_ : w'.cell? ⟨gb119, 9, none⟩ = some (.string a0_9) := (blk_cell BK119.out 9).trans rfl
            refine value_ (w1 := w') (v := .int .i64 a0_6) (by rfl) rfl ?_ ?_
            ·go_simp
             (try simp only [i64_w])
             try rfl
            refine hK.out _ _ ⟨v126, v133, (by rw [ha.out]; exact putSel_upk 18 hb_ rfl rfl rfl), Q_BK119, Q_HB, Q_HO127, fun h0_ => absurd ((hoff 25 (by kernel_rfl)).symm.trans h0_) (by decide)⟩
           refine steps_cons ?_ ?_
           ·rintro b a w' ⟨v126, v133, ha, Q_BK119, Q_HB, Q_HO127, Q_HO134⟩ hb_ hon hoff
            refine ⟨_, rfl, fun K hK => ?_⟩
            have e53 : a.tmps[53]? = some (.int .i64 a0_6) := by rw [ha]; exact putSel_on (e := (23, 53, .int .i64 a0_6)) 18 rfl rfl (hon 23 (by kernel_rfl)) rfl
            replace ha := Aside0.mk ha
            have BK119 := Aside0.mk Q_BK119
            have HB := Aside0.mk Q_HB
            refine value_ (w1 := w') (v := .int .u8 ((a0_6) % 256)) (by rfl) rfl ?_ ?_
            ·go_simp
             (try simp only [i64_w])
             try rfl
            refine hK.out _ _ ⟨v126, v133, (by rw [ha.out]; exact putSel_upk 19 hb_ rfl rfl rfl), Q_BK119, Q_HB, Q_HO127, fun h0_ => absurd ((hoff 25 (by kernel_rfl)).symm.trans h0_) (by decide)⟩
           refine steps_cons ?_ ?_
           ·rintro b a w' ⟨v126, v133, ha, Q_BK119, Q_HB, Q_HO127, Q_HO134⟩ hb_ hon hoff
            refine ⟨_, rfl, fun K hK => ?_⟩
            have e51 : a.tmps[51]? = some (.int .u8 ((a0_5) % 256)) := by rw [ha]; exact putSel_on (e := (21, 51, .int .u8 ((a0_5) % 256))) 17 rfl rfl (hon 21 (by kernel_rfl)) rfl
            have e54 : a.tmps[54]? = some (.int .u8 ((a0_6) % 256)) := by rw [ha]; exact putSel_on (e := (24, 54, .int .u8 ((a0_6) % 256))) 19 rfl rfl (hon 24 (by kernel_rfl)) rfl
            replace ha := Aside0.mk ha
            have BK119 := Aside0.mk Q_BK119
            have HB := Aside0.mk Q_HB
            refine Kd.R_lit_step (Kd.int .u8) _ 5 ?hg (N := 55) ?hd (xs := ([(a0_5) % 256, (a0_6) % 256] : List Int)) (inner := [.int .u8 ((a0_5) % 256), .int .u8 ((a0_6) % 256)]) (ok := fun _ => True) (okp := fun _ => True) ?hr ?hp (fun _ hk => hk) trivial (Below.refl _ _) (Nat.le_refl _) (by simp) ?_; (case hd => rfl); (case hg => rfl); (case hr => first | (go_simp; done) | (go_simp; rfl)); (case hp => exact (Reps.one (show Kd.M (Kd.int .u8) _ _ _ ((a0_5) % 256) [.int .u8 ((a0_5) % 256)] from rfl) (Reps.one (show Kd.M (Kd.int .u8) _ _ _ ((a0_6) % 256) [.int .u8 ((a0_6) % 256)] from rfl) (Reps.none _ _))))
            intro v133 w29 ho30 hb hg_ hnew_
            clear hg_ hnew_
            (first | rw [← Ny132.out] at ho30 | (simp only [Int.reduceToNat] at ho30; rw [← Ny132.out] at ho30))
            have n0_ := Aside0.mk (Kd.R_lower ho30 (below_size (by repeat (first | (with_reducible first | exact HB.out | apply below_alloc | apply pw_below_drewN | apply below_drew1 | refine below_set ?_ GE119.out) | exact HB.out))))
            have n1_ := Aside0.mk (blk_below (g := gb119) (o := .cells #[.int .i64 a0_0, .int .i64 a0_1, .bool a0_2, .bool a0_3, .int .i64 a0_4, .int .i64 a0_5, .int .i64 a0_6, .int .u32 a0_7, .int .u32 a0_8, .string a0_9] 24 (0, 0)) (by (with_reducible repeat (first | refine blk_drewN ?_ _ | refine blk_drew ?_ | refine blk_alloc ?_ _)); exact BK119.out) hb)
            have n2_ := Aside0.mk (below_step (by repeat (first | (with_reducible first | exact HB.out | apply below_alloc | apply pw_below_drewN | apply below_drew1 | refine below_set ?_ GE119.out) | exact HB.out)) hb)
            have z_HO127 := fun (h0_ : b 3 = true) => (show Kd.R (Kd.int .u8) 5 w29 w.heap.size (fun _ => True) v126 y125 from by first | exact (Kd.R_elder' (by (with_reducible repeat (first | apply Kd.R_alloc | apply Kd.R_drewN | apply Kd.R_drew)); exact (Q_HO127 h0_)) (Kd.R_base ho30) hb) | exact Kd.R_mono (Kd.R_elder' (by (with_reducible repeat (first | apply Kd.R_alloc | apply Kd.R_drewN | apply Kd.R_drew)); exact (Q_HO127 h0_)) (Kd.R_base ho30) hb) (fun _ h_ => by first | trivial | exact h_ | exact h_.1))
            clear BK119
            clear HB
            have HO134 := n0_
            have BK119 := n1_
            have HB := n2_
            clear n0_ n1_ n2_
            clear hb ho30
            refine hK.out _ _ ⟨v126, v133, (by rw [ha.out]; exact putSel_upk 20 hb_ rfl rfl rfl), (by (with_reducible repeat (first | refine blk_drewN ?_ _ | refine blk_drew ?_ | refine blk_alloc ?_ _)); exact BK119.out), (by repeat (first | (with_reducible first | exact HB.out | apply below_alloc | apply pw_below_drewN | apply below_drew1 | refine below_set ?_ GE119.out) | exact HB.out)), z_HO127, fun _ => (by (with_reducible repeat (first | apply Kd.R_alloc | apply Kd.R_drewN | apply Kd.R_drew)); exact HO134.out)⟩
           refine steps_cons ?_ ?_
           ·rintro b a w' ⟨v126, v133, ha, Q_BK119, Q_HB, Q_HO127, Q_HO134⟩ hb_ hon hoff
            refine ⟨_, rfl, fun K hK => ?_⟩
            have e55 : a.tmps[55]? = some (v133) := by rw [ha]; exact putSel_on (e := (25, 55, v133)) 20 rfl rfl (hon 25 (by kernel_rfl)) rfl
            replace ha := Aside0.mk ha
            have BK119 := Aside0.mk Q_BK119
            have HB := Aside0.mk Q_HB
            have HO134 := Aside0.mk (Q_HO134 (hon 25 (by kernel_rfl)))
            obtain ⟨Ao26_0, co26_0, eo_⟩ := Kd.R_slice HO134.out
            subst eo_
            have hcv26_ := own_string (P := Tryd.prog) Tryd.underlying38 Tryd.underlying5 Tryd.underlying9 (Kd.own_of_R HO134.out)
            refine value_ (w1 := w') (v := .string (strOfNums y132)) (by rfl) rfl ?_ ?_
            ·go_simp
             (try simp only [i64_w])
             try rfl
            refine hK.out _ _ ⟨v126, .slice Ao26_0 y132.length co26_0, (by rw [ha.out]; exact putSel_upk 21 hb_ rfl rfl rfl), Q_BK119, Q_HB, Q_HO127, Q_HO134⟩
           refine steps_cons ?_ ?_
           ·rintro b a w' ⟨v126, v133, ha, Q_BK119, Q_HB, Q_HO127, Q_HO134⟩ hb_ hon hoff
            refine ⟨_, rfl, fun K hK => ?_⟩
            have e48 : a.tmps[48]? = some (.string ((((strOfNums y125) ++ t128) ++ t129) ++ t131)) := by rw [ha]; exact putSel_on (e := (18, 48, .string ((((strOfNums y125) ++ t128) ++ t129) ++ t131))) 15 rfl rfl (hon 18 (by kernel_rfl)) rfl
            have e56 : a.tmps[56]? = some (.string (strOfNums y132)) := by rw [ha]; exact putSel_on (e := (26, 56, .string (strOfNums y132))) 21 rfl rfl (hon 26 (by kernel_rfl)) rfl
            replace ha := Aside0.mk ha
            have BK119 := Aside0.mk Q_BK119
            have HB := Aside0.mk Q_HB
            have HO127 := Aside0.mk (Q_HO127 (hon 3 (by kernel_rfl)))
            have HO134 := Aside0.mk (Q_HO134 (hon 25 (by kernel_rfl)))
            refine value_ (w1 := w') (v := .string (((((strOfNums y125) ++ t128) ++ t129) ++ t131) ++ (strOfNums y132))) (by rfl) rfl ?_ ?_
            ·go_simp
             (try simp only [i64_w])
             try rfl
            refine hK.out _ _ ⟨v126, v133, (by rw [ha.out]; exact putSel_upk 22 hb_ rfl rfl rfl), Q_BK119, Q_HB, Q_HO127, Q_HO134⟩
           refine steps_cons ?_ ?_
           ·rintro b a w' ⟨v126, v133, ha, Q_BK119, Q_HB, Q_HO127, Q_HO134⟩ hb_ hon hoff
            refine ⟨_, rfl, fun K hK => ?_⟩
            have e57 : a.tmps[57]? = some (.string (((((strOfNums y125) ++ t128) ++ t129) ++ t131) ++ (strOfNums y132))) := by rw [ha]; exact putSel_on (e := (27, 57, .string (((((strOfNums y125) ++ t128) ++ t129) ++ t131) ++ (strOfNums y132)))) 22 rfl rfl (hon 27 (by kernel_rfl)) rfl
            replace ha := Aside0.mk ha
            have BK119 := Aside0.mk Q_BK119
            have HB := Aside0.mk Q_HB
            have HO127 := Aside0.mk (Q_HO127 (hon 3 (by kernel_rfl)))
            have HO134 := Aside0.mk (Q_HO134 (hon 25 (by kernel_rfl)))
            refine value_ (w1 := w') (v := .string (((((strOfNums y125) ++ t128) ++ t129) ++ t131) ++ (strOfNums y132))) (by rfl) rfl ?_ ?_
            ·go_simp
             (try simp only [i64_w])
             try rfl
            refine hK.out _ _ ⟨v126, v133, (by rw [ha.out]; exact putSel_upk 23 hb_ rfl rfl rfl), Q_BK119, Q_HB, Q_HO127, Q_HO134⟩
           exact steps_nil
          rintro b a w37 hall ⟨v126, v133, ha, Q_BK119, Q_HB, Q_HO127, Q_HO134⟩
          clear BK119 HB
          have hb1_ := hall 1 (by kernel_rfl)
          have hb2_ := hall 2 (by kernel_rfl)
          have hb3_ := hall 3 (by kernel_rfl)
          have hb4_ := hall 4 (by kernel_rfl)
          have hb6_ := hall 6 (by kernel_rfl)
          have hb7_ := hall 7 (by kernel_rfl)
          have hb8_ := hall 8 (by kernel_rfl)
          have hb9_ := hall 9 (by kernel_rfl)
          have hb10_ := hall 10 (by kernel_rfl)
          have hb12_ := hall 12 (by kernel_rfl)
          have hb13_ := hall 13 (by kernel_rfl)
          have hb14_ := hall 14 (by kernel_rfl)
          have hb15_ := hall 15 (by kernel_rfl)
          have hb16_ := hall 16 (by kernel_rfl)
          have hb17_ := hall 17 (by kernel_rfl)
          have hb18_ := hall 18 (by kernel_rfl)
          have hb20_ := hall 20 (by kernel_rfl)
          have hb21_ := hall 21 (by kernel_rfl)
          have hb23_ := hall 23 (by kernel_rfl)
          have hb24_ := hall 24 (by kernel_rfl)
          have hb25_ := hall 25 (by kernel_rfl)
          have hb26_ := hall 26 (by kernel_rfl)
          have hb27_ := hall 27 (by kernel_rfl)
          have hb28_ := hall 28 (by kernel_rfl)
          subst ha
          simp only [putSel, hb1_, hb2_, hb3_, hb4_, hb6_, hb7_, hb8_, hb9_, hb10_, hb12_, hb13_, hb14_, hb15_, hb16_, hb17_, hb18_, hb20_, hb21_, hb23_, hb24_, hb25_, hb26_, hb27_, hb28_, if_true, Act.put, List.setIfInBounds_toArray, List.set_cons_zero, List.set_cons_succ]
          have BK119 := Aside0.mk Q_BK119
          clear Q_BK119
          have HB := Aside0.mk Q_HB
          clear Q_HB
          have HO127 := Aside0.mk (Q_HO127 hb3_)
          clear Q_HO127
          have HO134 := Aside0.mk (Q_HO134 hb25_)
          clear Q_HO134
          clear hall hb1_ hb2_ hb3_ hb4_ hb6_ hb7_ hb8_ hb9_ hb10_ hb12_ hb13_ hb14_ hb15_ hb16_ hb17_ hb18_ hb20_ hb21_ hb23_ hb24_ hb25_ hb26_ hb27_ hb28_
          try go_wp2
          have n0_ := Aside0.mk (Kd.R_drew HO127.out)
          have n1_ := Aside0.mk (Kd.R_drew HO134.out)
          have n2_ := Aside0.mk (blk_drew BK119.out)
          have n3_ := Aside0.mk (below_drew1 HB.out)
          clear HO127
          clear HO134
          clear BK119
          clear HB
          have HO127 := n0_
          have HO134 := n1_
          have BK119 := n2_
          have HB := n3_
          clear n0_ n1_ n2_ n3_
          refine start_ (n := 15) (S := fun w' => w'.cell? ⟨gb119, 0, none⟩ = some (.int .i64 a0_0) ∧ w'.cell? ⟨gb119, 1, none⟩ = some (.int .i64 a0_1) ∧ w'.cell? ⟨gb119, 2, none⟩ = some (.bool a0_2) ∧ w'.cell? ⟨gb119, 3, none⟩ = some (.bool a0_3) ∧ w'.cell? ⟨gb119, 4, none⟩ = some (.int .i64 a0_4) ∧ w'.cell? ⟨gb119, 5, none⟩ = some (.int .i64 a0_5) ∧ w'.cell? ⟨gb119, 6, none⟩ = some (.int .i64 a0_6) ∧ w'.cell? ⟨gb119, 7, none⟩ = some (.int .u32 a0_7) ∧ w'.cell? ⟨gb119, 8, none⟩ = some (.int .u32 a0_8) ∧ w'.cell? ⟨gb119, 9, none⟩ = some (.string a0_9)) (ds := []) #[false, false, false, false, false, false, false, false, false, false, false, false, false, false, false] (by kernel_rfl) rfl rfl ⟨(blk_cell BK119.out 0).trans rfl, (blk_cell BK119.out 1).trans rfl, (blk_cell BK119.out 2).trans rfl, (blk_cell BK119.out 3).trans rfl, (blk_cell BK119.out 4).trans rfl, (blk_cell BK119.out 5).trans rfl, (blk_cell BK119.out 6).trans rfl, (blk_cell BK119.out 7).trans rfl, (blk_cell BK119.out 8).trans rfl, (blk_cell BK119.out 9).trans rfl⟩ (fun hHeld => ?_); refine with_tabW inet_Build.tab8 inet_Build.bits8 (fun HT_ HW_ => ?_)
          generalize w37.drew = w40 at HO127 HO134 BK119 HB hHeld ⊢
          refine pure_ (i := 0) (N := some 61) (v := ?_) (a' := ?_) #[true, false, false, false, false, false, false, false, false, false, false, false, false, false, false] rfl rfl (any_of HT_.out (by kernel_rfl)) (fun _ _ _ h => h) (Or.inl ⟨by rfl, ?_⟩) ?_ ?_
          rotate_left
          ·intro w'
           go_simp
           with_reducible rfl
          rotate_left
          ·simp only [Act.put, List.setIfInBounds_toArray, List.set_cons_zero, List.set_cons_succ, i64_w, i32_w]
           rfl
          refine pure_ (i := 1) (N := some 62) (v := ?_) (a' := ?_) #[true, true, false, false, false, false, false, false, false, false, false, false, false, false, false] rfl rfl (any_of HT_.out (by kernel_rfl)) (fun _ _ _ h => h) (Or.inl ⟨by rfl, ?_⟩) ?_ ?_
          rotate_left
          ·intro w'
           go_simp
           with_reducible rfl
          rotate_left
          ·simp only [Act.put, List.setIfInBounds_toArray, List.set_cons_zero, List.set_cons_succ, i64_w, i32_w]
           rfl
          refine pure_ (i := 3) (N := some 64) (v := ?_) (a' := ?_) #[true, true, false, true, false, false, false, false, false, false, false, false, false, false, false] rfl rfl (any_of HT_.out (by kernel_rfl)) (fun _ _ _ h => h) (Or.inl ⟨by rfl, ?_⟩) ?_ ?_
          rotate_left
          ·intro w'
           go_simp
           with_reducible rfl
          rotate_left
          ·simp only [Act.put, List.setIfInBounds_toArray, List.set_cons_zero, List.set_cons_succ, i64_w, i32_w]
           rfl
          refine pure_ (i := 8) (N := some 69) (v := ?_) (a' := ?_) #[true, true, false, true, false, false, false, false, true, false, false, false, false, false, false] rfl rfl (any_of HT_.out (by kernel_rfl)) (fun _ _ _ h => h) (Or.inl ⟨by rfl, ?_⟩) ?_ ?_
          rotate_left
          ·intro w'
           go_simp
           with_reducible rfl
          rotate_left
          ·simp only [Act.put, List.setIfInBounds_toArray, List.set_cons_zero, List.set_cons_succ, i64_w, i32_w]
           rfl
          refine pure_ (i := 10) (N := some 71) (v := ?_) (a' := ?_) #[true, true, false, true, false, false, false, false, true, false, true, false, false, false, false] rfl rfl (any_of HT_.out (by kernel_rfl)) (fun _ _ _ h => h) (Or.inl ⟨by rfl, ?_⟩) ?_ ?_
          rotate_left
          ·intro w'
           go_simp
           with_reducible rfl
          rotate_left
          ·simp only [Act.put, List.setIfInBounds_toArray, List.set_cons_zero, List.set_cons_succ, i64_w, i32_w]
           rfl
          refine take_ (i := 11) (N := some 72) (v := ?_) (a' := ?_) #[true, true, false, true, false, false, false, false, true, false, true, true, false, false, false] rfl rfl (take_ofW HT_.out HW_.out (by kernel_rfl)) (fun _ _ _ h => h) (Or.inl ⟨by rfl, ?_⟩) hHeld ?_ ?_
          rotate_left
          ·rintro w' ⟨s0, s1, s2, s3, s4, s5, s6, s7, s8, s9⟩
           go_simp
           with_reducible rfl
          rotate_left
          ·simp only [Act.put, List.setIfInBounds_toArray, List.set_cons_zero, List.set_cons_succ, i64_w, i32_w]
           rfl
          refine one_ (i := 2) (N := some 63) #[true, true, true, true, false, false, false, false, true, false, true, true, false, false, false] rfl rfl (one_of HT_.out (by kernel_rfl)) (by decide) (fun K hK => ?_)
          refine goes_ Tryd.func21 (by kernel_rfl) rfl #[.int .i64 0] (by first | rfl | exact wanted_on rfl rfl rfl (by first | rfl | (simp [*]; done) | (simp [*, IntKind.wrap_u32]; done))) rfl rfl (by (try simp only [List.map_toArray, List.map_cons, List.map_nil]); first | done | rfl | (simp only [List.length_drop, List.length_take]; rfl)) ?_
          with_reducible refine (inet_word.calls k 0 t135 _ A15.out).mono ?_
          rintro e w41 ⟨rfl, hb⟩
          refine ⟨_, rfl, ?_⟩
          have n0_ := Aside0.mk (Kd.R_below (by (with_reducible repeat (first | apply Kd.R_alloc | apply Kd.R_drewN | apply Kd.R_drew)); exact HO127.out) hb)
          have n1_ := Aside0.mk (Kd.R_below (by (with_reducible repeat (first | apply Kd.R_alloc | apply Kd.R_drewN | apply Kd.R_drew)); exact HO134.out) hb)
          have n2_ := Aside0.mk (blk_below (g := gb119) (o := .cells #[.int .i64 a0_0, .int .i64 a0_1, .bool a0_2, .bool a0_3, .int .i64 a0_4, .int .i64 a0_5, .int .i64 a0_6, .int .u32 a0_7, .int .u32 a0_8, .string a0_9] 24 (0, 0)) (by (with_reducible repeat (first | refine blk_drewN ?_ _ | refine blk_drew ?_ | refine blk_alloc ?_ _)); exact BK119.out) hb)
          have n3_ := Aside0.mk (below_step (by repeat (first | (with_reducible first | exact HB.out | apply below_alloc | apply pw_below_drewN | apply below_drew1 | refine below_set ?_ GE119.out) | exact HB.out)) hb)
          clear HO127
          clear HO134
          clear BK119
          clear HB
          have HO127 := n0_
          have HO134 := n1_
          have BK119 := n2_
          have HB := n3_
          clear n0_ n1_ n2_ n3_
          (try clear hb)
          (try clear hb2)
          (try clear hk)
          (try clear hi)
          refine hK.out _ _ ⟨(blk_cell BK119.out 0).trans rfl, (blk_cell BK119.out 1).trans rfl, (blk_cell BK119.out 2).trans rfl, (blk_cell BK119.out 3).trans rfl, (blk_cell BK119.out 4).trans rfl, (blk_cell BK119.out 5).trans rfl, (blk_cell BK119.out 6).trans rfl, (blk_cell BK119.out 7).trans rfl, (blk_cell BK119.out 8).trans rfl, (blk_cell BK119.out 9).trans rfl⟩ (fun hHeld => ?_)
          clear hK K
          refine norm_ (a' := ?_) ?_ ?_
          rotate_left
          ·show Act.put _ (some 63) _ = _
           simp only [Act.put, List.setIfInBounds_toArray, List.set_cons_zero, List.set_cons_succ, i64_w, i32_w]
           rfl
          refine one_ (i := 4) (N := some 65) #[true, true, true, true, true, false, false, false, true, false, true, true, false, false, false] rfl rfl (one_of HT_.out (by kernel_rfl)) (by decide) (fun K hK => ?_)
          refine Kd.R_lit_step Kd.string _ 9 ?hg (N := 65) ?hd (xs := ([((((strOfNums y125) ++ t128) ++ t129) ++ t131) ++ (strOfNums y132), t135, t121 ++ t123] : List ByteArray)) (inner := [.string (((((strOfNums y125) ++ t128) ++ t129) ++ t131) ++ (strOfNums y132)), .string t135, .string (t121 ++ t123)]) (ok := fun _ => True) (okp := fun _ => True) ?hr ?hp (fun _ hk => hk) trivial (Below.refl _ _) (Nat.le_refl _) (by simp) ?_; (case hd => rfl); (case hg => rfl); (case hr => first | (go_simp; done) | (go_simp; rfl)); (case hp => exact (Reps.one (show Kd.M Kd.string _ _ _ (((((strOfNums y125) ++ t128) ++ t129) ++ t131) ++ (strOfNums y132)) [.string (((((strOfNums y125) ++ t128) ++ t129) ++ t131) ++ (strOfNums y132))] from rfl) (Reps.one (show Kd.M Kd.string _ _ _ t135 [.string t135] from rfl) (Reps.one (show Kd.M Kd.string _ _ _ (t121 ++ t123) [.string (t121 ++ t123)] from rfl) (Reps.none _ _)))))
          intro v137 w42 ho43 hb hg_ hnew_
          clear hg_ hnew_
          (first | rw [← Ny136.out] at ho43 | (simp only [Int.reduceToNat] at ho43; rw [← Ny136.out] at ho43))
          have n0_ := Aside0.mk (Kd.R_below (by (with_reducible repeat (first | apply Kd.R_alloc | apply Kd.R_drewN | apply Kd.R_drew)); exact HO127.out) hb)
          have n1_ := Aside0.mk (Kd.R_below (by (with_reducible repeat (first | apply Kd.R_alloc | apply Kd.R_drewN | apply Kd.R_drew)); exact HO134.out) hb)
          have n2_ := Aside0.mk (Kd.R_lower ho43 (below_size (by repeat (first | (with_reducible first | exact HB.out | apply below_alloc | apply pw_below_drewN | apply below_drew1 | refine below_set ?_ GE119.out) | exact HB.out))))
          have n3_ := Aside0.mk (blk_below (g := gb119) (o := .cells #[.int .i64 a0_0, .int .i64 a0_1, .bool a0_2, .bool a0_3, .int .i64 a0_4, .int .i64 a0_5, .int .i64 a0_6, .int .u32 a0_7, .int .u32 a0_8, .string a0_9] 24 (0, 0)) (by (with_reducible repeat (first | refine blk_drewN ?_ _ | refine blk_drew ?_ | refine blk_alloc ?_ _)); exact BK119.out) hb)
          have n4_ := Aside0.mk (below_step (by repeat (first | (with_reducible first | exact HB.out | apply below_alloc | apply pw_below_drewN | apply below_drew1 | refine below_set ?_ GE119.out) | exact HB.out)) hb)
          clear HO127
          clear HO134
          clear BK119
          clear HB
          have HO127 := n0_
          have HO134 := n1_
          have HO138 := n2_
          have BK119 := n3_
          have HB := n4_
          clear n0_ n1_ n2_ n3_ n4_
          clear hb ho43
          obtain ⟨Ao44, co44, eo44⟩ := Kd.R_slice HO138.out
          (first | subst eo44 | (injection eo44 with f1_ f2_ f3_; have f4_ := f1_.symm; have f5_ := f3_.symm; clear f1_ f2_ f3_; subst f4_; subst f5_))
          refine hK.out _ _ ⟨(blk_cell BK119.out 0).trans rfl, (blk_cell BK119.out 1).trans rfl, (blk_cell BK119.out 2).trans rfl, (blk_cell BK119.out 3).trans rfl, (blk_cell BK119.out 4).trans rfl, (blk_cell BK119.out 5).trans rfl, (blk_cell BK119.out 6).trans rfl, (blk_cell BK119.out 7).trans rfl, (blk_cell BK119.out 8).trans rfl, (blk_cell BK119.out 9).trans rfl⟩ (fun hHeld => ?_)
          clear hK K
          refine norm_ (a' := ?_) ?_ ?_
          rotate_left
          ·show Act.put _ (some 65) _ = _
           simp only [Act.put, List.setIfInBounds_toArray, List.set_cons_zero, List.set_cons_succ, i64_w, i32_w]
           rfl
          refine one_ (i := 5) (N := some 66) #[true, true, true, true, true, true, false, false, true, false, true, true, false, false, false] rfl rfl (one_of HT_.out (by kernel_rfl)) (by decide) (fun K hK => ?_)
          refine goes_ Tryd.func23 (by kernel_rfl) rfl #[.slice Ao44 y136.length co44] (by first | rfl | exact wanted_on rfl rfl rfl (by first | rfl | (simp [*]; done) | (simp [*, IntKind.wrap_u32]; done))) rfl rfl (by (try simp only [List.map_toArray, List.map_cons, List.map_nil]); first | done | rfl | (simp only [List.length_drop, List.length_take]; rfl)) ?_
          with_reducible refine (csum_Of.calls k _ _ y136 t139 _ ?side1 ?side2 A16.out).mono ?_
          (case side1 => repeat (first | exact (Kd.R_reads' HO138.out).2.2 | (with_reducible refine Kd.C_alloc ?_ _) | (with_reducible refine Kd.C_drewN ?_ _) | (with_reducible refine Kd.C_drew ?_)))
          (case side2 => exact (Kd.R_reads' HO138.out).2.1)
          rintro e w45 ⟨rfl, hb⟩
          refine ⟨_, rfl, ?_⟩
          have n0_ := Aside0.mk (Kd.R_below (by (with_reducible repeat (first | apply Kd.R_alloc | apply Kd.R_drewN | apply Kd.R_drew)); exact HO127.out) hb)
          have n1_ := Aside0.mk (Kd.R_below (by (with_reducible repeat (first | apply Kd.R_alloc | apply Kd.R_drewN | apply Kd.R_drew)); exact HO134.out) hb)
          have n2_ := Aside0.mk (Kd.R_below (by (with_reducible repeat (first | apply Kd.R_alloc | apply Kd.R_drewN | apply Kd.R_drew)); exact HO138.out) hb)
          have n3_ := Aside0.mk (blk_below (g := gb119) (o := .cells #[.int .i64 a0_0, .int .i64 a0_1, .bool a0_2, .bool a0_3, .int .i64 a0_4, .int .i64 a0_5, .int .i64 a0_6, .int .u32 a0_7, .int .u32 a0_8, .string a0_9] 24 (0, 0)) (by (with_reducible repeat (first | refine blk_drewN ?_ _ | refine blk_drew ?_ | refine blk_alloc ?_ _)); exact BK119.out) hb)
          have n4_ := Aside0.mk (below_step (by repeat (first | (with_reducible first | exact HB.out | apply below_alloc | apply pw_below_drewN | apply below_drew1 | refine below_set ?_ GE119.out) | exact HB.out)) hb)
          clear HO127
          clear HO134
          clear HO138
          clear BK119
          clear HB
          have HO127 := n0_
          have HO134 := n1_
          have HO138 := n2_
          have BK119 := n3_
          have HB := n4_
          clear n0_ n1_ n2_ n3_ n4_
          (try clear hb)
          (try clear hb2)
          (try clear hk)
          (try clear hi)
          refine hK.out _ _ ⟨(blk_cell BK119.out 0).trans rfl, (blk_cell BK119.out 1).trans rfl, (blk_cell BK119.out 2).trans rfl, (blk_cell BK119.out 3).trans rfl, (blk_cell BK119.out 4).trans rfl, (blk_cell BK119.out 5).trans rfl, (blk_cell BK119.out 6).trans rfl, (blk_cell BK119.out 7).trans rfl, (blk_cell BK119.out 8).trans rfl, (blk_cell BK119.out 9).trans rfl⟩ (fun hHeld => ?_)
          clear hK K
          refine norm_ (a' := ?_) ?_ ?_
          rotate_left
          ·show Act.put _ (some 66) _ = _
           simp only [Act.put, List.setIfInBounds_toArray, List.set_cons_zero, List.set_cons_succ, i64_w, i32_w]
           rfl
          refine one_ (i := 6) (N := some 67) #[true, true, true, true, true, true, true, false, true, false, true, true, false, false, false] rfl rfl (one_of HT_.out (by kernel_rfl)) (by decide) (fun K hK => ?_)
          refine goes_ Tryd.func21 (by kernel_rfl) rfl #[.int .i64 t139] (by first | rfl | exact wanted_on rfl rfl rfl (by first | rfl | (simp [*]; done) | (simp [*, IntKind.wrap_u32]; done))) rfl rfl (by (try simp only [List.map_toArray, List.map_cons, List.map_nil]); first | done | rfl | (simp only [List.length_drop, List.length_take]; rfl)) ?_
          with_reducible refine (inet_word.calls k t139 t140 _ A17.out).mono ?_
          rintro e w46 ⟨rfl, hb⟩
          refine ⟨_, rfl, ?_⟩
          have n0_ := Aside0.mk (Kd.R_below (by (with_reducible repeat (first | apply Kd.R_alloc | apply Kd.R_drewN | apply Kd.R_drew)); exact HO127.out) hb)
          have n1_ := Aside0.mk (Kd.R_below (by (with_reducible repeat (first | apply Kd.R_alloc | apply Kd.R_drewN | apply Kd.R_drew)); exact HO134.out) hb)
          have n2_ := Aside0.mk (Kd.R_below (by (with_reducible repeat (first | apply Kd.R_alloc | apply Kd.R_drewN | apply Kd.R_drew)); exact HO138.out) hb)
          have n3_ := Aside0.mk (blk_below (g := gb119) (o := .cells #[.int .i64 a0_0, .int .i64 a0_1, .bool a0_2, .bool a0_3, .int .i64 a0_4, .int .i64 a0_5, .int .i64 a0_6, .int .u32 a0_7, .int .u32 a0_8, .string a0_9] 24 (0, 0)) (by (with_reducible repeat (first | refine blk_drewN ?_ _ | refine blk_drew ?_ | refine blk_alloc ?_ _)); exact BK119.out) hb)
          have n4_ := Aside0.mk (below_step (by repeat (first | (with_reducible first | exact HB.out | apply below_alloc | apply pw_below_drewN | apply below_drew1 | refine below_set ?_ GE119.out) | exact HB.out)) hb)
          clear HO127
          clear HO134
          clear HO138
          clear BK119
          clear HB
          have HO127 := n0_
          have HO134 := n1_
          have HO138 := n2_
          have BK119 := n3_
          have HB := n4_
          clear n0_ n1_ n2_ n3_ n4_
          (try clear hb)
          (try clear hb2)
          (try clear hk)
          (try clear hi)
          refine hK.out _ _ ⟨(blk_cell BK119.out 0).trans rfl, (blk_cell BK119.out 1).trans rfl, (blk_cell BK119.out 2).trans rfl, (blk_cell BK119.out 3).trans rfl, (blk_cell BK119.out 4).trans rfl, (blk_cell BK119.out 5).trans rfl, (blk_cell BK119.out 6).trans rfl, (blk_cell BK119.out 7).trans rfl, (blk_cell BK119.out 8).trans rfl, (blk_cell BK119.out 9).trans rfl⟩ (fun hHeld => ?_)
          clear hK K
          refine norm_ (a' := ?_) ?_ ?_
          rotate_left
          ·show Act.put _ (some 67) _ = _
           simp only [Act.put, List.setIfInBounds_toArray, List.set_cons_zero, List.set_cons_succ, i64_w, i32_w]
           rfl
          refine pure_ (i := 7) (N := some 68) (v := ?_) (a' := ?_) #[true, true, true, true, true, true, true, true, true, false, true, true, false, false, false] rfl rfl (any_of HT_.out (by kernel_rfl)) (fun _ _ _ h => h) (Or.inl ⟨by rfl, ?_⟩) ?_ ?_
          rotate_left
          ·intro w'
           go_simp
           with_reducible rfl
          rotate_left
          ·simp only [Act.put, List.setIfInBounds_toArray, List.set_cons_zero, List.set_cons_succ, i64_w, i32_w]
           rfl
          refine pure_ (i := 9) (N := some 70) (v := ?_) (a' := ?_) #[true, true, true, true, true, true, true, true, true, true, true, true, false, false, false] rfl rfl (any_of HT_.out (by kernel_rfl)) (fun _ _ _ h => h) (Or.inl ⟨by rfl, ?_⟩) ?_ ?_
          rotate_left
          ·intro w'
           go_simp
           with_reducible rfl
          rotate_left
          ·simp only [Act.put, List.setIfInBounds_toArray, List.set_cons_zero, List.set_cons_succ, i64_w, i32_w]
           rfl
          refine pure_ (i := 12) (N := some 73) (v := ?_) (a' := ?_) #[true, true, true, true, true, true, true, true, true, true, true, true, true, false, false] rfl rfl (any_of HT_.out (by kernel_rfl)) (fun _ _ _ h => h) (Or.inl ⟨by rfl, ?_⟩) ?_ ?_
          rotate_left
          ·intro w'
           go_simp
           with_reducible rfl
          rotate_left
          ·simp only [Act.put, List.setIfInBounds_toArray, List.set_cons_zero, List.set_cons_succ, i64_w, i32_w]
           rfl
          refine pure_ (i := 13) (N := some 2) (v := ?_) (a' := ?_) #[true, true, true, true, true, true, true, true, true, true, true, true, true, true, false] rfl rfl (any_of HT_.out (by kernel_rfl)) (fun _ _ _ h => h) (Or.inl ⟨by rfl, ?_⟩) ?_ ?_
          rotate_left
          ·intro w'
           go_simp
           with_reducible rfl
          rotate_left
          ·simp only [Act.put, List.setIfInBounds_toArray, List.set_cons_zero, List.set_cons_succ, i64_w, i32_w]
           rfl
          refine pure_ (i := 14) (N := some 3) (v := ?_) (a' := ?_) #[true, true, true, true, true, true, true, true, true, true, true, true, true, true, true] rfl rfl (any_of HT_.out (by kernel_rfl)) (fun _ _ _ h => h) (Or.inl ⟨by rfl, ?_⟩) ?_ ?_
          rotate_left
          ·intro w'
           go_simp
           with_reducible rfl
          rotate_left
          ·simp only [Act.put, List.setIfInBounds_toArray, List.set_cons_zero, List.set_cons_succ, i64_w, i32_w]
           rfl
          refine done_ (done_of HT_.out (by kernel_rfl)) ?_
          try go_wp2
          go_ret2
          exact ⟨by first | rfl | (simp [errW_none, errW_some] <;> rfl) | (simp [*, errW_none, errW_some] <;> rfl) | (simp [*, IntKind.wrap_u32]; done) | (simp_all [IntKind.wrap_u32]; done), by repeat (first | (with_reducible first | exact HB.out | apply below_alloc | apply pw_below_drewN | apply below_drew1 | refine below_set ?_ GE119.out) | exact HB.out)⟩
         ·rw [if_neg c20] at H
          exact absurd H (by simp)
        ·rw [if_neg c19] at H
         exact absurd H (by simp)
       ·rw [if_neg c18] at H
        exact absurd H (by simp)
      ·rw [if_neg c14] at H
       exact absurd H (by simp)
     ·rw [if_neg c13] at H
      exact absurd H (by simp)
    ·rw [if_neg c12] at H
     exact absurd H (by simp)
   ·rw [if_neg c9] at H
    exact absurd H (by simp)
  ·rw [if_neg c7] at H
   exact absurd H (by simp)
 ·rw [if_neg c3] at H
  have c3b0 : (t120 == 0) = false := beq_eq_false_iff_ne.mpr c3
  have c3b1 : (t120 != 0) = true := bne_iff_ne.mpr c3
  simp only [Option.some.injEq, Prod.mk.injEq] at H
  obtain ⟨rfl, rfl⟩ := H
  go_enter Tryd.func10, Tryd.ntmps10
  go_wp2_with (first | ((with_reducible refine gate_dst (N := 1) rfl ?_); refine box_event ?hg (N := 1) ?hd (cs := #[.int .i64 a0_0, .int .i64 a0_1, .bool a0_2, .bool a0_3, .int .i64 a0_4, .int .i64 a0_5, .int .i64 a0_6, .int .u32 a0_7, .int .u32 a0_8, .string a0_9]) (t := 24) ?hr ?_; (case hd => rfl); (case hg => rfl); (case hr => first | (go_simp; done) | (go_simp; rfl)); intro gb119 hg w47 hbox hb; have n0_ := Aside0.mk (below_step (by repeat (first | (with_reducible first | exact HB.out | apply below_alloc | apply pw_below_drewN | apply below_drew1) | exact HB.out)) hb); have n1_ := Aside0.mk (hbox); have n2_ := Aside0.mk ((by rw [hg]; exact (below_size (by repeat (first | (with_reducible first | exact HB.out | apply below_alloc | apply pw_below_drewN | apply below_drew1) | exact HB.out))) : w.heap.size ≤ gb119)); have n3_ := Aside0.mk ((by rw [hg]; exact (below_size (by repeat (first | (with_reducible first | exact HB.out | apply below_alloc | apply pw_below_drewN | apply below_drew1) | exact HB.out))) : w.heap.size ≤ gb119)); clear HB; have HB := n0_; have BK119 := n1_; have GW119 := n2_; have GE119 := n3_; clear n0_ n1_ n2_ n3_; clear hb hbox hg; have hcz48_0 : w47.cell? ⟨gb119, 0, none⟩ = some (.int .i64 a0_0) := (blk_cell BK119.out 0).trans rfl; have hcz48_1 : w47.cell? ⟨gb119, 1, none⟩ = some (.int .i64 a0_1) := (blk_cell BK119.out 1).trans rfl; have hcz48_2 : w47.cell? ⟨gb119, 2, none⟩ = some (.bool a0_2) := (blk_cell BK119.out 2).trans rfl; have hcz48_3 : w47.cell? ⟨gb119, 3, none⟩ = some (.bool a0_3) := (blk_cell BK119.out 3).trans rfl; have hcz48_4 : w47.cell? ⟨gb119, 4, none⟩ = some (.int .i64 a0_4) := (blk_cell BK119.out 4).trans rfl; have hcz48_5 : w47.cell? ⟨gb119, 5, none⟩ = some (.int .i64 a0_5) := (blk_cell BK119.out 5).trans rfl; have hcz48_6 : w47.cell? ⟨gb119, 6, none⟩ = some (.int .i64 a0_6) := (blk_cell BK119.out 6).trans rfl; have hcz48_7 : w47.cell? ⟨gb119, 7, none⟩ = some (.int .u32 a0_7) := (blk_cell BK119.out 7).trans rfl; have hcz48_8 : w47.cell? ⟨gb119, 8, none⟩ = some (.int .u32 a0_8) := (blk_cell BK119.out 8).trans rfl; have hcz48_9 : w47.cell? ⟨gb119, 9, none⟩ = some (.string a0_9) := (blk_cell BK119.out 9).trans rfl; have hfz48_0 := blk_frozen BK119.out 0; have hfz48_1 := blk_frozen BK119.out 1; have hfz48_2 := blk_frozen BK119.out 2; have hfz48_3 := blk_frozen BK119.out 3; have hfz48_4 := blk_frozen BK119.out 4; have hfz48_5 := blk_frozen BK119.out 5; have hfz48_6 := blk_frozen BK119.out 6; have hfz48_7 := blk_frozen BK119.out 7; have hfz48_8 := blk_frozen BK119.out 8; have hfz48_9 := blk_frozen BK119.out 9) | ((with_reducible refine gate_callee (f := 13) rfl ?_); refine goesL_ (some 12) rfl rfl Tryd.func13 (by kernel_rfl) rfl #[.agg #[.int .i64 a0_0, .int .i64 a0_1, .bool a0_2, .bool a0_3, .int .i64 a0_4, .int .i64 a0_5, .int .i64 a0_6, .int .u32 a0_7, .int .u32 a0_8, .string a0_9]] rfl (by (try simp only [List.map_toArray, List.map_cons, List.map_nil]); first | done | rfl | (simp only [List.length_drop, List.length_take]; rfl)) ?_; (with_reducible refine (inet_Check.calls a0_0 a0_1 a0_2 a0_3 a0_4 a0_5 a0_6 a0_7 a0_8 a0_9 t120 _ A2.out).mono ?_); rintro e w49 ⟨rfl, hb⟩; refine ⟨_, rfl, ?_⟩; have n0_ := Aside0.mk (blk_below (g := gb119) (o := .cells #[.int .i64 a0_0, .int .i64 a0_1, .bool a0_2, .bool a0_3, .int .i64 a0_4, .int .i64 a0_5, .int .i64 a0_6, .int .u32 a0_7, .int .u32 a0_8, .string a0_9] 24 (0, 0)) (by (with_reducible repeat (first | refine blk_drewN ?_ _ | refine blk_drew ?_ | refine blk_alloc ?_ _)); exact BK119.out) hb); have n1_ := Aside0.mk (below_step (by repeat (first | (with_reducible first | exact HB.out | apply below_alloc | apply pw_below_drewN | apply below_drew1 | refine below_set ?_ GE119.out) | exact HB.out)) hb); clear BK119; clear HB; have BK119 := n0_; have HB := n1_; clear n0_ n1_; have hcy1_119_0 := (show World.cell? _ ⟨gb119, 0, none⟩ = some (.int .i64 a0_0) from (blk_cell BK119.out 0).trans rfl); have hcy1_119_1 := (show World.cell? _ ⟨gb119, 1, none⟩ = some (.int .i64 a0_1) from (blk_cell BK119.out 1).trans rfl); have hcy1_119_2 := (show World.cell? _ ⟨gb119, 2, none⟩ = some (.bool a0_2) from (blk_cell BK119.out 2).trans rfl); have hcy1_119_3 := (show World.cell? _ ⟨gb119, 3, none⟩ = some (.bool a0_3) from (blk_cell BK119.out 3).trans rfl); have hcy1_119_4 := (show World.cell? _ ⟨gb119, 4, none⟩ = some (.int .i64 a0_4) from (blk_cell BK119.out 4).trans rfl); have hcy1_119_5 := (show World.cell? _ ⟨gb119, 5, none⟩ = some (.int .i64 a0_5) from (blk_cell BK119.out 5).trans rfl); have hcy1_119_6 := (show World.cell? _ ⟨gb119, 6, none⟩ = some (.int .i64 a0_6) from (blk_cell BK119.out 6).trans rfl); have hcy1_119_7 := (show World.cell? _ ⟨gb119, 7, none⟩ = some (.int .u32 a0_7) from (blk_cell BK119.out 7).trans rfl); have hcy1_119_8 := (show World.cell? _ ⟨gb119, 8, none⟩ = some (.int .u32 a0_8) from (blk_cell BK119.out 8).trans rfl); have hcy1_119_9 := (show World.cell? _ ⟨gb119, 9, none⟩ = some (.string a0_9) from (blk_cell BK119.out 9).trans rfl); (try clear hb); (try clear hb2); (try clear hk); (try clear hi)))
  go_ret2
  exact ⟨by first | rfl | (simp [errW_none, errW_some] <;> rfl) | (simp [*, errW_none, errW_some] <;> rfl) | (simp [*, IntKind.wrap_u32]; done) | (simp_all [IntKind.wrap_u32]; done), by repeat (first | (with_reducible first | exact HB.out | apply below_alloc | apply pw_below_drewN | apply below_drew1 | refine below_set ?_ GE119.out) | exact HB.out)⟩

end Go.Proofs.YtigagipeaheclaaDoor.P
