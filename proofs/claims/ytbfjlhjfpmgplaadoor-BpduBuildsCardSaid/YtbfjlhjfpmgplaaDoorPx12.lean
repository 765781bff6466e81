-- squeezed
-- Written by wip/hprint.py (this session's program) through the kit's print program; hand contracts are marked 'by hand'.
import Derived.Test.YtbfjlhjfpmgplaaDoorRow
import Derived.Test.YtbfjlhjfpmgplaaDoorRowB
import Derived.Test.YtbfjlhjfpmgplaaDoorPx0
import Derived.Test.YtbfjlhjfpmgplaaDoorPx10
import Derived.Test.YtbfjlhjfpmgplaaDoorPx11
namespace Go.Proofs.YtbfjlhjfpmgplaaDoor.P
open Go.RowKit Go.Proofs.YtbfjlhjfpmgplaaDoorW.PrintWords Go.Proofs.YtbfjlhjfpmgplaaDoorW.PrintLast Go.Proofs.YtbfjlhjfpmgplaaDoorW.PrintMore
attribute [local go_sem] max2_int min2_int max_two min_two max_three min_three max_four min_four   -- for this text's walks alone
set_option linter.unusedVariables false
set_option linter.unusedSimpArgs false

/-! ### gangwayref09_Build: function 9 -/
def gangwayref09_Build.f (k : Nat) (a0_0 : Int) (a0_1 : Bool) (a0_2 : Bool) (a0_3 : Bool) (a0_4 : Bool) (a0_5 : Bool) (a0_6 : Bool) (a0_7 : Int) (a0_8 : Int) (a0_9 : Int) (a0_10 : Int) (a0_11 : Int) (a0_12 : Int) (a0_13 : Int) (a0_14 : Int) (a0_15 : Int) : Option (ByteArray × Int) := (gangwayref09_Check.f k a0_0 a0_1 a0_2 a0_3 a0_4 a0_5 a0_6 a0_7 a0_8 a0_9 a0_10 a0_11 a0_12 a0_13 a0_14 a0_15).bind fun t141 => (if t141 = 0 then (if a0_0 = 128 then (if 5 + 2 ≤ 9223372036854775807 then (some ((⟨#[66, 66, 3, 0, 0]⟩ : ByteArray) ++ (⟨#[0, 128]⟩ : ByteArray), 0)) else (none)) else ((gangwayref09_bit.f a0_1 1).bind fun t142 => ((gangwayref09_bit.f a0_2 2).bind fun t143 => ((gangwayref09_bit.f a0_3 16).bind fun t144 => ((gangwayref09_bit.f a0_4 32).bind fun t145 => ((gangwayref09_bit.f a0_5 64).bind fun t146 => ((gangwayref09_bit.f a0_6 128).bind fun t147 => ((gangwayref01_Bytes.f k (IntKind.u64.wrap (wrap64 ((wrap64 ((wrap64 ((wrap64 ((wrap64 ((wrap64 (t142 + t143)) + (wrap64 (4 * a0_7)))) + t144)) + t145)) + t146)) + t147))) 1).bind fun t148 => ((gangwayref01_Bytes.f k a0_8 8).bind fun t149 => (if t148.size + t149.size ≤ 9223372036854775807 then ((gangwayref01_Bytes.f k (IntKind.u64.wrap (a0_9)) 4).bind fun t150 => (if (t148 ++ t149).size + t150.size ≤ 9223372036854775807 then ((gangwayref01_Bytes.f k a0_10 8).bind fun t151 => (if ((t148 ++ t149) ++ t150).size + t151.size ≤ 9223372036854775807 then ((gangwayref01_Bytes.f k (IntKind.u64.wrap (a0_11)) 2).bind fun t152 => (if (((t148 ++ t149) ++ t150) ++ t151).size + t152.size ≤ 9223372036854775807 then ((gangwayref01_Bytes.f k (IntKind.u64.wrap (a0_12)) 2).bind fun t153 => (if ((((t148 ++ t149) ++ t150) ++ t151) ++ t152).size + t153.size ≤ 9223372036854775807 then ((gangwayref01_Bytes.f k (IntKind.u64.wrap (a0_13)) 2).bind fun t154 => (if (((((t148 ++ t149) ++ t150) ++ t151) ++ t152) ++ t153).size + t154.size ≤ 9223372036854775807 then ((gangwayref01_Bytes.f k (IntKind.u64.wrap (a0_14)) 2).bind fun t155 => (if ((((((t148 ++ t149) ++ t150) ++ t151) ++ t152) ++ t153) ++ t154).size + t155.size ≤ 9223372036854775807 then ((gangwayref01_Bytes.f k (IntKind.u64.wrap (a0_15)) 2).bind fun t156 => (if (((((((t148 ++ t149) ++ t150) ++ t151) ++ t152) ++ t153) ++ t154) ++ t155).size + t156.size ≤ 9223372036854775807 then (if a0_0 = 2 then (if 5 + 2 ≤ 9223372036854775807 then (if 7 + ((((((((t148 ++ t149) ++ t150) ++ t151) ++ t152) ++ t153) ++ t154) ++ t155) ++ t156).size ≤ 9223372036854775807 then (if (((⟨#[66, 66, 3, 0, 0]⟩ : ByteArray) ++ (⟨#[2, 2]⟩ : ByteArray)) ++ ((((((((t148 ++ t149) ++ t150) ++ t151) ++ t152) ++ t153) ++ t154) ++ t155) ++ t156)).size + 1 ≤ 9223372036854775807 then (some ((((⟨#[66, 66, 3, 0, 0]⟩ : ByteArray) ++ (⟨#[2, 2]⟩ : ByteArray)) ++ ((((((((t148 ++ t149) ++ t150) ++ t151) ++ t152) ++ t153) ++ t154) ++ t155) ++ t156)) ++ (⟨#[0]⟩ : ByteArray), 0)) else (none)) else (none)) else (none)) else (if 5 + 2 ≤ 9223372036854775807 then (if 7 + ((((((((t148 ++ t149) ++ t150) ++ t151) ++ t152) ++ t153) ++ t154) ++ t155) ++ t156).size ≤ 9223372036854775807 then (some (((⟨#[66, 66, 3, 0, 0]⟩ : ByteArray) ++ (⟨#[0, 0]⟩ : ByteArray)) ++ ((((((((t148 ++ t149) ++ t150) ++ t151) ++ t152) ++ t153) ++ t154) ++ t155) ++ t156), 0)) else (none)) else (none))) else (none))) else (none))) else (none))) else (none))) else (none))) else (none))) else (none))) else (none))))))))))) else (some ((⟨#[]⟩ : ByteArray), t141)))
theorem gangwayref09_Build.mono : ∀ a0 a1 a2 a3 a4 a5 a6 a7 a8 a9 a10 a11 a12 a13 a14 a15 k, LeO (gangwayref09_Build.f k a0 a1 a2 a3 a4 a5 a6 a7 a8 a9 a10 a11 a12 a13 a14 a15) (gangwayref09_Build.f (k + 1) a0 a1 a2 a3 a4 a5 a6 a7 a8 a9 a10 a11 a12 a13 a14 a15) := by
 intro a0 a1 a2 a3 a4 a5 a6 a7 a8 a9 a10 a11 a12 a13 a14 a15 k
 unfold gangwayref09_Build.f
 repeat' first
   | (with_reducible exact gangwayref01_Bytes.mono _ _ _)
   | (with_reducible exact gangwayref09_Check.mono _ _ _ _ _ _ _ _ _ _ _ _ _ _ _ _ _)
   | (with_reducible exact LeO.refl _)
   | (with_reducible exact LeO.none _)
   | (with_reducible refine LeO.ite ?_ ?_)
   | (with_reducible refine LeO.bind ?_ (fun _ => ?_))
   | exact gangwayref01_Bytes.mono _ _ _
   | exact gangwayref09_Check.mono _ _ _ _ _ _ _ _ _ _ _ _ _ _ _ _ _
   | exact LeO.none _
   | refine LeO.ite ?_ ?_
   | refine LeO.bind ?_ (fun _ => ?_)
def gangwayref09_Build.T7 : Bool × List (List Nat × List Nat) := (true, [([], []), ([0], [0]), ([1], [1]), ([], []), ([3], [3]), ([4, 2], [4]), ([2, 5], [2, 5]), ([], []), ([7], [7]), ([8], [8]), ([6, 9], [6, 9]), ([], []), ([11], [11]), ([12, 5], [12]), ([10, 13], [10, 13]), ([], []), ([15], [15]), ([16, 13], [16]), ([14, 17], [14, 17]), ([], []), ([19], [19]), ([20, 17], [20]), ([18, 21], [18, 21]), ([], []), ([23], [23]), ([24, 21], [24]), ([22, 25], [22, 25]), ([26, 25, 0, 1, 2, 3, 4, 5, 6, 7, 8, 9, 10, 11, 12, 13, 14, 15, 16, 17, 18, 19, 20, 21, 22, 23, 24, 25, 26], [26])])
def gangwayref09_Build.B7 : List Nat := [0, 1, 3, 0, 8, 31, 63, 0, 128, 384, 1023, 0, 2048, 6207, 16383, 0, 32768, 112703, 262143, 0, 524288, 1816639, 4194303, 0, 8388608, 29079615, 67108863, 134217727]
theorem gangwayref09_Build.tab7 : rtab .any (opsOf Tryd.f9 7) = gangwayref09_Build.T7 := by kernel_rfl
theorem gangwayref09_Build.bits7 : waitsOk gangwayref09_Build.T7.2 gangwayref09_Build.B7 = true := by kernel_rfl
def gangwayref09_Build.T8 : Bool × List (List Nat × List Nat) := (true, [([], []), ([0], [0]), ([1], [1]), ([], []), ([3], [3]), ([4, 2], [4]), ([2, 5], [2, 5]), ([], []), ([7], [7]), ([8], [8]), ([9, 5], [9]), ([6, 10], [6, 10]), ([], []), ([12], [12]), ([13, 10], [13]), ([11, 14], [11, 14]), ([], []), ([16], [16]), ([17], [17]), ([18, 14], [18]), ([15, 19], [15, 19]), ([], []), ([21], [21]), ([22], [22]), ([23, 19], [23]), ([20, 24], [20, 24]), ([], []), ([26], [26]), ([27], [27]), ([28, 24], [28]), ([25, 29], [25, 29]), ([], []), ([31], [31]), ([32], [32]), ([33, 29], [33]), ([30, 34], [30, 34]), ([], []), ([36], [36]), ([37], [37]), ([38, 34], [38]), ([35, 39], [35, 39]), ([40, 39, 0, 1, 2, 3, 4, 5, 6, 7, 8, 9, 10, 11, 12, 13, 14, 15, 16, 17, 18, 19, 20, 21, 22, 23, 24, 25, 26, 27, 28, 29, 30, 31, 32, 33, 34, 35, 36, 37, 38, 39, 40], [40])])
def gangwayref09_Build.B8 : List Nat := [0, 1, 3, 0, 8, 31, 63, 0, 128, 384, 959, 2047, 0, 4096, 14271, 32767, 0, 65536, 196608, 489407, 1048575, 0, 2097152, 6291456, 15693759, 33554431, 0, 67108864, 201326592, 502233023, 1073741823, 0, 2147483648, 6442450944, 16071489471, 34359738367, 0, 68719476736, 206158430208, 514287695807, 1099511627775, 2199023255551]
theorem gangwayref09_Build.tab8 : rtab .any (opsOf Tryd.f9 8) = gangwayref09_Build.T8 := by kernel_rfl
theorem gangwayref09_Build.bits8 : waitsOk gangwayref09_Build.T8.2 gangwayref09_Build.B8 = true := by kernel_rfl
set_option maxHeartbeats 8000000 in
set_option maxRecDepth 100000 in
theorem gangwayref09_Build.calls (k : Nat) (a0_0 : Int) (a0_1 : Bool) (a0_2 : Bool) (a0_3 : Bool) (a0_4 : Bool) (a0_5 : Bool) (a0_6 : Bool) (a0_7 : Int) (a0_8 : Int) (a0_9 : Int) (a0_10 : Int) (a0_11 : Int) (a0_12 : Int) (a0_13 : Int) (a0_14 : Int) (a0_15 : Int) (r1 : ByteArray) (r2 : Int) (w : World) (h : gangwayref09_Build.f k a0_0 a0_1 a0_2 a0_3 a0_4 a0_5 a0_6 a0_7 a0_8 a0_9 a0_10 a0_11 a0_12 a0_13 a0_14 a0_15 = some (r1, r2)) :
  Calls Tryd.prog 9 #[.agg #[.int .i64 a0_0, .bool a0_1, .bool a0_2, .bool a0_3, .bool a0_4, .bool a0_5, .bool a0_6, .int .i64 a0_7, .int .u64 a0_8, .int .i64 a0_9, .int .u64 a0_10, .int .i64 a0_11, .int .i64 a0_12, .int .i64 a0_13, .int .i64 a0_14, .int .i64 a0_15]] w fun e w' => e = .returned (.tuple #[.string r1, .int .i64 r2]) ∧ Below w.heap.size w w' := by
 have hu24 := Tryd.underlying24
 have HB := Aside0.mk (Below.refl w.heap.size w)
 have H : ((gangwayref09_Check.f k a0_0 a0_1 a0_2 a0_3 a0_4 a0_5 a0_6 a0_7 a0_8 a0_9 a0_10 a0_11 a0_12 a0_13 a0_14 a0_15).bind fun t141 => (if t141 = 0 then (if a0_0 = 128 then (if 5 + 2 ≤ 9223372036854775807 then (some ((⟨#[66, 66, 3, 0, 0]⟩ : ByteArray) ++ (⟨#[0, 128]⟩ : ByteArray), 0)) else (none)) else ((gangwayref09_bit.f a0_1 1).bind fun t142 => ((gangwayref09_bit.f a0_2 2).bind fun t143 => ((gangwayref09_bit.f a0_3 16).bind fun t144 => ((gangwayref09_bit.f a0_4 32).bind fun t145 => ((gangwayref09_bit.f a0_5 64).bind fun t146 => ((gangwayref09_bit.f a0_6 128).bind fun t147 => ((gangwayref01_Bytes.f k (IntKind.u64.wrap (wrap64 ((wrap64 ((wrap64 ((wrap64 ((wrap64 ((wrap64 (t142 + t143)) + (wrap64 (4 * a0_7)))) + t144)) + t145)) + t146)) + t147))) 1).bind fun t148 => ((gangwayref01_Bytes.f k a0_8 8).bind fun t149 => (if t148.size + t149.size ≤ 9223372036854775807 then ((gangwayref01_Bytes.f k (IntKind.u64.wrap (a0_9)) 4).bind fun t150 => (if (t148 ++ t149).size + t150.size ≤ 9223372036854775807 then ((gangwayref01_Bytes.f k a0_10 8).bind fun t151 => (if ((t148 ++ t149) ++ t150).size + t151.size ≤ 9223372036854775807 then ((gangwayref01_Bytes.f k (IntKind.u64.wrap (a0_11)) 2).bind fun t152 => (if (((t148 ++ t149) ++ t150) ++ t151).size + t152.size ≤ 9223372036854775807 then ((gangwayref01_Bytes.f k (IntKind.u64.wrap (a0_12)) 2).bind fun t153 => (if ((((t148 ++ t149) ++ t150) ++ t151) ++ t152).size + t153.size ≤ 9223372036854775807 then ((gangwayref01_Bytes.f k (IntKind.u64.wrap (a0_13)) 2).bind fun t154 => (if (((((t148 ++ t149) ++ t150) ++ t151) ++ t152) ++ t153).size + t154.size ≤ 9223372036854775807 then ((gangwayref01_Bytes.f k (IntKind.u64.wrap (a0_14)) 2).bind fun t155 => (if ((((((t148 ++ t149) ++ t150) ++ t151) ++ t152) ++ t153) ++ t154).size + t155.size ≤ 9223372036854775807 then ((gangwayref01_Bytes.f k (IntKind.u64.wrap (a0_15)) 2).bind fun t156 => (if (((((((t148 ++ t149) ++ t150) ++ t151) ++ t152) ++ t153) ++ t154) ++ t155).size + t156.size ≤ 9223372036854775807 then (if a0_0 = 2 then (if 5 + 2 ≤ 9223372036854775807 then (if 7 + ((((((((t148 ++ t149) ++ t150) ++ t151) ++ t152) ++ t153) ++ t154) ++ t155) ++ t156).size ≤ 9223372036854775807 then (if (((⟨#[66, 66, 3, 0, 0]⟩ : ByteArray) ++ (⟨#[2, 2]⟩ : ByteArray)) ++ ((((((((t148 ++ t149) ++ t150) ++ t151) ++ t152) ++ t153) ++ t154) ++ t155) ++ t156)).size + 1 ≤ 9223372036854775807 then (some ((((⟨#[66, 66, 3, 0, 0]⟩ : ByteArray) ++ (⟨#[2, 2]⟩ : ByteArray)) ++ ((((((((t148 ++ t149) ++ t150) ++ t151) ++ t152) ++ t153) ++ t154) ++ t155) ++ t156)) ++ (⟨#[0]⟩ : ByteArray), 0)) else (none)) else (none)) else (none)) else (if 5 + 2 ≤ 9223372036854775807 then (if 7 + ((((((((t148 ++ t149) ++ t150) ++ t151) ++ t152) ++ t153) ++ t154) ++ t155) ++ t156).size ≤ 9223372036854775807 then (some (((⟨#[66, 66, 3, 0, 0]⟩ : ByteArray) ++ (⟨#[0, 0]⟩ : ByteArray)) ++ ((((((((t148 ++ t149) ++ t150) ++ t151) ++ t152) ++ t153) ++ t154) ++ t155) ++ t156), 0)) else (none)) else (none))) else (none))) else (none))) else (none))) else (none))) else (none))) else (none))) else (none))) else (none))))))))))) else (some ((⟨#[]⟩ : ByteArray), t141)))) = some (r1, r2) := h
 clear h
 replace H := Option.bind_eq_some_iff.mp H
 obtain ⟨t141, A20, H⟩ := H
 replace H : (if t141 = 0 then (if a0_0 = 128 then (if 5 + 2 ≤ 9223372036854775807 then (some ((⟨#[66, 66, 3, 0, 0]⟩ : ByteArray) ++ (⟨#[0, 128]⟩ : ByteArray), 0)) else (none)) else ((gangwayref09_bit.f a0_1 1).bind fun t142 => ((gangwayref09_bit.f a0_2 2).bind fun t143 => ((gangwayref09_bit.f a0_3 16).bind fun t144 => ((gangwayref09_bit.f a0_4 32).bind fun t145 => ((gangwayref09_bit.f a0_5 64).bind fun t146 => ((gangwayref09_bit.f a0_6 128).bind fun t147 => ((gangwayref01_Bytes.f k (IntKind.u64.wrap (wrap64 ((wrap64 ((wrap64 ((wrap64 ((wrap64 ((wrap64 (t142 + t143)) + (wrap64 (4 * a0_7)))) + t144)) + t145)) + t146)) + t147))) 1).bind fun t148 => ((gangwayref01_Bytes.f k a0_8 8).bind fun t149 => (if t148.size + t149.size ≤ 9223372036854775807 then ((gangwayref01_Bytes.f k (IntKind.u64.wrap (a0_9)) 4).bind fun t150 => (if (t148 ++ t149).size + t150.size ≤ 9223372036854775807 then ((gangwayref01_Bytes.f k a0_10 8).bind fun t151 => (if ((t148 ++ t149) ++ t150).size + t151.size ≤ 9223372036854775807 then ((gangwayref01_Bytes.f k (IntKind.u64.wrap (a0_11)) 2).bind fun t152 => (if (((t148 ++ t149) ++ t150) ++ t151).size + t152.size ≤ 9223372036854775807 then ((gangwayref01_Bytes.f k (IntKind.u64.wrap (a0_12)) 2).bind fun t153 => (if ((((t148 ++ t149) ++ t150) ++ t151) ++ t152).size + t153.size ≤ 9223372036854775807 then ((gangwayref01_Bytes.f k (IntKind.u64.wrap (a0_13)) 2).bind fun t154 => (if (((((t148 ++ t149) ++ t150) ++ t151) ++ t152) ++ t153).size + t154.size ≤ 9223372036854775807 then ((gangwayref01_Bytes.f k (IntKind.u64.wrap (a0_14)) 2).bind fun t155 => (if ((((((t148 ++ t149) ++ t150) ++ t151) ++ t152) ++ t153) ++ t154).size + t155.size ≤ 9223372036854775807 then ((gangwayref01_Bytes.f k (IntKind.u64.wrap (a0_15)) 2).bind fun t156 => (if (((((((t148 ++ t149) ++ t150) ++ t151) ++ t152) ++ t153) ++ t154) ++ t155).size + t156.size ≤ 9223372036854775807 then (if a0_0 = 2 then (if 5 + 2 ≤ 9223372036854775807 then (if 7 + ((((((((t148 ++ t149) ++ t150) ++ t151) ++ t152) ++ t153) ++ t154) ++ t155) ++ t156).size ≤ 9223372036854775807 then (if (((⟨#[66, 66, 3, 0, 0]⟩ : ByteArray) ++ (⟨#[2, 2]⟩ : ByteArray)) ++ ((((((((t148 ++ t149) ++ t150) ++ t151) ++ t152) ++ t153) ++ t154) ++ t155) ++ t156)).size + 1 ≤ 9223372036854775807 then (some ((((⟨#[66, 66, 3, 0, 0]⟩ : ByteArray) ++ (⟨#[2, 2]⟩ : ByteArray)) ++ ((((((((t148 ++ t149) ++ t150) ++ t151) ++ t152) ++ t153) ++ t154) ++ t155) ++ t156)) ++ (⟨#[0]⟩ : ByteArray), 0)) else (none)) else (none)) else (none)) else (if 5 + 2 ≤ 9223372036854775807 then (if 7 + ((((((((t148 ++ t149) ++ t150) ++ t151) ++ t152) ++ t153) ++ t154) ++ t155) ++ t156).size ≤ 9223372036854775807 then (some (((⟨#[66, 66, 3, 0, 0]⟩ : ByteArray) ++ (⟨#[0, 0]⟩ : ByteArray)) ++ ((((((((t148 ++ t149) ++ t150) ++ t151) ++ t152) ++ t153) ++ t154) ++ t155) ++ t156), 0)) else (none)) else (none))) else (none))) else (none))) else (none))) else (none))) else (none))) else (none))) else (none))) else (none))))))))))) else (some ((⟨#[]⟩ : ByteArray), t141))) = some (r1, r2) := H
 have A2 := Aside0.mk A20
 clear A20
 by_cases c3 : t141 = 0
 ·rw [if_pos c3] at H
  have c3b0 : (t141 == 0) = true := beq_iff_eq.mpr c3
  have c3b1 : (t141 != 0) = false := bne_eq_false_iff_eq.mpr c3
  clear c3
  by_cases c4 : a0_0 = 128
  ·rw [if_pos c4] at H
   have c4b0 : (a0_0 == 128) = true := beq_iff_eq.mpr c4
   have c4b1 : (a0_0 != 128) = false := bne_eq_false_iff_eq.mpr c4
   clear c4
   by_cases c5 : 5 + 2 ≤ 9223372036854775807
   ·rw [if_pos c5] at H
    have c5b0 := eq_true c5
    have c5b1 : decide (5 + 2 ≤ 9223372036854775807) = true := decide_eq_true c5
    try have c5b2 : (9223372036854775807 < 5 + 2) = False := eq_false (Nat.not_lt.2 c5)
    simp only [Option.some.injEq, Prod.mk.injEq] at H
    obtain ⟨rfl, rfl⟩ := H
    go_enter Tryd.func9, Tryd.ntmps9
    go_wp2_with (first | ((with_reducible refine gate_st (ty := 24) rfl ?_); (try (with_reducible refine gate_gd rfl ?_; refine gate_guard (by first | rfl | exact wanted_on rfl rfl rfl (by first | rfl | (simp [*]; done))) ?_; dsimp only)); refine storeC16 rfl rfl rfl rfl rfl (by repeat (first | (with_reducible apply blk_far; case hp => assumption) | (with_reducible apply blk_set) | (with_reducible refine blk_drewN ?_ _) | (with_reducible refine blk_drew ?_) | (with_reducible refine blk_alloc ?_ _) | (first | with_reducible exact BK140.out))) (by first | (simp only [List.setIfInBounds_toArray, List.set_cons_zero, List.set_cons_succ] <;> rfl) | rfl) (by kernel_rfl) rfl ?_) | ((with_reducible refine gate_ld (ty := 24) rfl ?_); (try (with_reducible refine gate_gd rfl ?_; refine gate_guard (by first | rfl | exact wanted_on rfl rfl rfl (by first | rfl | (simp [*]; done))) ?_; dsimp only)); refine load_st rfl rfl rfl (by repeat (first | (with_reducible apply blk_far; case hp => assumption) | (with_reducible apply blk_set) | (with_reducible refine blk_drewN ?_ _) | (with_reducible refine blk_drew ?_) | (with_reducible refine blk_alloc ?_ _) | (first | with_reducible exact BK140.out))) (by first | (simp only [List.setIfInBounds_toArray, List.set_cons_zero, List.set_cons_succ] <;> rfl) | rfl) Tryd.underlying24 rfl (by kernel_rfl) ?_; (try simp only [Act.put, List.setIfInBounds_toArray, List.set_cons_zero, List.set_cons_succ])) | ((with_reducible refine gate_dst (N := 1) rfl ?_); refine box_event ?hg (N := 1) ?hd (cs := #[.int .i64 a0_0, .bool a0_1, .bool a0_2, .bool a0_3, .bool a0_4, .bool a0_5, .bool a0_6, .int .i64 a0_7, .int .u64 a0_8, .int .i64 a0_9, .int .u64 a0_10, .int .i64 a0_11, .int .i64 a0_12, .int .i64 a0_13, .int .i64 a0_14, .int .i64 a0_15]) (t := 24) ?hr ?_; (case hd => rfl); (case hg => rfl); (case hr => first | (go_simp; done) | (go_simp; rfl)); intro gb140 hg w6 hbox hb; have n0_ := Aside0.mk (below_step (by repeat (first | (with_reducible first | exact HB.out | apply below_alloc | apply pw_below_drewN | apply below_drew1) | exact HB.out)) hb); have n1_ := Aside0.mk (hbox); have n2_ := Aside0.mk ((by rw [hg]; exact (below_size (by repeat (first | (with_reducible first | exact HB.out | apply below_alloc | apply pw_below_drewN | apply below_drew1) | exact HB.out))) : w.heap.size ≤ gb140)); have n3_ := Aside0.mk ((by rw [hg]; exact (below_size (by repeat (first | (with_reducible first | exact HB.out | apply below_alloc | apply pw_below_drewN | apply below_drew1) | exact HB.out))) : w.heap.size ≤ gb140)); clear HB; have HB := n0_; have BK140 := n1_; have GW140 := n2_; have GE140 := n3_; clear n0_ n1_ n2_ n3_; clear hb hbox hg; obtain ⟨hcz7_0, hcz7_1, hcz7_2, hcz7_3, hcz7_4, hcz7_5, hcz7_6, hcz7_7, hcz7_8, hcz7_9, hcz7_10, hcz7_11, hcz7_12, hcz7_13, hcz7_14, hcz7_15⟩ := cells16 BK140.out; obtain ⟨hfz7_0, hfz7_1, hfz7_2, hfz7_3, hfz7_4, hfz7_5, hfz7_6, hfz7_7, hfz7_8, hfz7_9, hfz7_10, hfz7_11, hfz7_12, hfz7_13, hfz7_14, hfz7_15⟩ := frozen16 BK140.out) | ((with_reducible refine gate_callee (f := 12) rfl ?_); refine goesL_ (some 9) rfl rfl Tryd.func12 (by kernel_rfl) rfl #[.agg #[.int .i64 a0_0, .bool a0_1, .bool a0_2, .bool a0_3, .bool a0_4, .bool a0_5, .bool a0_6, .int .i64 a0_7, .int .u64 a0_8, .int .i64 a0_9, .int .u64 a0_10, .int .i64 a0_11, .int .i64 a0_12, .int .i64 a0_13, .int .i64 a0_14, .int .i64 a0_15]] rfl (by (try simp only [List.map_toArray, List.map_cons, List.map_nil]); first | done | rfl | (simp only [List.length_drop, List.length_take]; rfl)) ?_; (with_reducible refine (gangwayref09_Check.calls k a0_0 a0_1 a0_2 a0_3 a0_4 a0_5 a0_6 a0_7 a0_8 a0_9 a0_10 a0_11 a0_12 a0_13 a0_14 a0_15 t141 _ A2.out).mono ?_); rintro e w8 ⟨rfl, hb⟩; refine ⟨_, rfl, ?_⟩; have n0_ := Aside0.mk (blk_below (g := gb140) (by (with_reducible repeat (first | refine blk_drewN ?_ _ | refine blk_drew ?_ | refine blk_alloc ?_ _)); exact BK140.out) hb); have n1_ := Aside0.mk (below_step (by repeat (first | (with_reducible first | exact HB.out | apply below_alloc | apply pw_below_drewN | apply below_drew1 | refine below_set ?_ GE140.out) | exact HB.out)) hb); clear BK140; clear HB; have BK140 := n0_; have HB := n1_; clear n0_ n1_; (try clear hb); (try clear hb2); (try clear hk); (try clear hi); obtain ⟨hcz9_0, hcz9_1, hcz9_2, hcz9_3, hcz9_4, hcz9_5, hcz9_6, hcz9_7, hcz9_8, hcz9_9, hcz9_10, hcz9_11, hcz9_12, hcz9_13, hcz9_14, hcz9_15⟩ := cells16 BK140.out; obtain ⟨hfz9_0, hfz9_1, hfz9_2, hfz9_3, hfz9_4, hfz9_5, hfz9_6, hfz9_7, hfz9_8, hfz9_9, hfz9_10, hfz9_11, hfz9_12, hfz9_13, hfz9_14, hfz9_15⟩ := frozen16 BK140.out))
    go_ret2
    exact ⟨by first | rfl | (simp [errW_none, errW_some] <;> rfl) | (simp [*, errW_none, errW_some] <;> rfl) | (simp [*, IntKind.wrap_u32]; done) | (simp_all [IntKind.wrap_u32]; done), by repeat (first | (with_reducible first | exact HB.out | apply below_alloc | apply pw_below_drewN | apply below_drew1 | refine below_set ?_ GE140.out) | exact HB.out)⟩
   ·rw [if_neg c5] at H
    exact absurd H (by simp)
  ·rw [if_neg c4] at H
   have c4b0 : (a0_0 == 128) = false := beq_eq_false_iff_ne.mpr c4
   have c4b1 : (a0_0 != 128) = true := bne_iff_ne.mpr c4
   replace H := Option.bind_eq_some_iff.mp H
   obtain ⟨t142, A100, H⟩ := H
   replace H : ((gangwayref09_bit.f a0_2 2).bind fun t143 => ((gangwayref09_bit.f a0_3 16).bind fun t144 => ((gangwayref09_bit.f a0_4 32).bind fun t145 => ((gangwayref09_bit.f a0_5 64).bind fun t146 => ((gangwayref09_bit.f a0_6 128).bind fun t147 => ((gangwayref01_Bytes.f k (IntKind.u64.wrap (wrap64 ((wrap64 ((wrap64 ((wrap64 ((wrap64 ((wrap64 (t142 + t143)) + (wrap64 (4 * a0_7)))) + t144)) + t145)) + t146)) + t147))) 1).bind fun t148 => ((gangwayref01_Bytes.f k a0_8 8).bind fun t149 => (if t148.size + t149.size ≤ 9223372036854775807 then ((gangwayref01_Bytes.f k (IntKind.u64.wrap (a0_9)) 4).bind fun t150 => (if (t148 ++ t149).size + t150.size ≤ 9223372036854775807 then ((gangwayref01_Bytes.f k a0_10 8).bind fun t151 => (if ((t148 ++ t149) ++ t150).size + t151.size ≤ 9223372036854775807 then ((gangwayref01_Bytes.f k (IntKind.u64.wrap (a0_11)) 2).bind fun t152 => (if (((t148 ++ t149) ++ t150) ++ t151).size + t152.size ≤ 9223372036854775807 then ((gangwayref01_Bytes.f k (IntKind.u64.wrap (a0_12)) 2).bind fun t153 => (if ((((t148 ++ t149) ++ t150) ++ t151) ++ t152).size + t153.size ≤ 9223372036854775807 then ((gangwayref01_Bytes.f k (IntKind.u64.wrap (a0_13)) 2).bind fun t154 => (if (((((t148 ++ t149) ++ t150) ++ t151) ++ t152) ++ t153).size + t154.size ≤ 9223372036854775807 then ((gangwayref01_Bytes.f k (IntKind.u64.wrap (a0_14)) 2).bind fun t155 => (if ((((((t148 ++ t149) ++ t150) ++ t151) ++ t152) ++ t153) ++ t154).size + t155.size ≤ 9223372036854775807 then ((gangwayref01_Bytes.f k (IntKind.u64.wrap (a0_15)) 2).bind fun t156 => (if (((((((t148 ++ t149) ++ t150) ++ t151) ++ t152) ++ t153) ++ t154) ++ t155).size + t156.size ≤ 9223372036854775807 then (if a0_0 = 2 then (if 5 + 2 ≤ 9223372036854775807 then (if 7 + ((((((((t148 ++ t149) ++ t150) ++ t151) ++ t152) ++ t153) ++ t154) ++ t155) ++ t156).size ≤ 9223372036854775807 then (if (((⟨#[66, 66, 3, 0, 0]⟩ : ByteArray) ++ (⟨#[2, 2]⟩ : ByteArray)) ++ ((((((((t148 ++ t149) ++ t150) ++ t151) ++ t152) ++ t153) ++ t154) ++ t155) ++ t156)).size + 1 ≤ 9223372036854775807 then (some ((((⟨#[66, 66, 3, 0, 0]⟩ : ByteArray) ++ (⟨#[2, 2]⟩ : ByteArray)) ++ ((((((((t148 ++ t149) ++ t150) ++ t151) ++ t152) ++ t153) ++ t154) ++ t155) ++ t156)) ++ (⟨#[0]⟩ : ByteArray), 0)) else (none)) else (none)) else (none)) else (if 5 + 2 ≤ 9223372036854775807 then (if 7 + ((((((((t148 ++ t149) ++ t150) ++ t151) ++ t152) ++ t153) ++ t154) ++ t155) ++ t156).size ≤ 9223372036854775807 then (some (((⟨#[66, 66, 3, 0, 0]⟩ : ByteArray) ++ (⟨#[0, 0]⟩ : ByteArray)) ++ ((((((((t148 ++ t149) ++ t150) ++ t151) ++ t152) ++ t153) ++ t154) ++ t155) ++ t156), 0)) else (none)) else (none))) else (none))) else (none))) else (none))) else (none))) else (none))) else (none))) else (none))) else (none))))))))) = some (r1, r2) := H
   have A10 := Aside0.mk A100
   clear A100
   replace H := Option.bind_eq_some_iff.mp H
   obtain ⟨t143, A110, H⟩ := H
   replace H : ((gangwayref09_bit.f a0_3 16).bind fun t144 => ((gangwayref09_bit.f a0_4 32).bind fun t145 => ((gangwayref09_bit.f a0_5 64).bind fun t146 => ((gangwayref09_bit.f a0_6 128).bind fun t147 => ((gangwayref01_Bytes.f k (IntKind.u64.wrap (wrap64 ((wrap64 ((wrap64 ((wrap64 ((wrap64 ((wrap64 (t142 + t143)) + (wrap64 (4 * a0_7)))) + t144)) + t145)) + t146)) + t147))) 1).bind fun t148 => ((gangwayref01_Bytes.f k a0_8 8).bind fun t149 => (if t148.size + t149.size ≤ 9223372036854775807 then ((gangwayref01_Bytes.f k (IntKind.u64.wrap (a0_9)) 4).bind fun t150 => (if (t148 ++ t149).size + t150.size ≤ 9223372036854775807 then ((gangwayref01_Bytes.f k a0_10 8).bind fun t151 => (if ((t148 ++ t149) ++ t150).size + t151.size ≤ 9223372036854775807 then ((gangwayref01_Bytes.f k (IntKind.u64.wrap (a0_11)) 2).bind fun t152 => (if (((t148 ++ t149) ++ t150) ++ t151).size + t152.size ≤ 9223372036854775807 then ((gangwayref01_Bytes.f k (IntKind.u64.wrap (a0_12)) 2).bind fun t153 => (if ((((t148 ++ t149) ++ t150) ++ t151) ++ t152).size + t153.size ≤ 9223372036854775807 then ((gangwayref01_Bytes.f k (IntKind.u64.wrap (a0_13)) 2).bind fun t154 => (if (((((t148 ++ t149) ++ t150) ++ t151) ++ t152) ++ t153).size + t154.size ≤ 9223372036854775807 then ((gangwayref01_Bytes.f k (IntKind.u64.wrap (a0_14)) 2).bind fun t155 => (if ((((((t148 ++ t149) ++ t150) ++ t151) ++ t152) ++ t153) ++ t154).size + t155.size ≤ 9223372036854775807 then ((gangwayref01_Bytes.f k (IntKind.u64.wrap (a0_15)) 2).bind fun t156 => (if (((((((t148 ++ t149) ++ t150) ++ t151) ++ t152) ++ t153) ++ t154) ++ t155).size + t156.size ≤ 9223372036854775807 then (if a0_0 = 2 then (if 5 + 2 ≤ 9223372036854775807 then (if 7 + ((((((((t148 ++ t149) ++ t150) ++ t151) ++ t152) ++ t153) ++ t154) ++ t155) ++ t156).size ≤ 9223372036854775807 then (if (((⟨#[66, 66, 3, 0, 0]⟩ : ByteArray) ++ (⟨#[2, 2]⟩ : ByteArray)) ++ ((((((((t148 ++ t149) ++ t150) ++ t151) ++ t152) ++ t153) ++ t154) ++ t155) ++ t156)).size + 1 ≤ 9223372036854775807 then (some ((((⟨#[66, 66, 3, 0, 0]⟩ : ByteArray) ++ (⟨#[2, 2]⟩ : ByteArray)) ++ ((((((((t148 ++ t149) ++ t150) ++ t151) ++ t152) ++ t153) ++ t154) ++ t155) ++ t156)) ++ (⟨#[0]⟩ : ByteArray), 0)) else (none)) else (none)) else (none)) else (if 5 + 2 ≤ 9223372036854775807 then (if 7 + ((((((((t148 ++ t149) ++ t150) ++ t151) ++ t152) ++ t153) ++ t154) ++ t155) ++ t156).size ≤ 9223372036854775807 then (some (((⟨#[66, 66, 3, 0, 0]⟩ : ByteArray) ++ (⟨#[0, 0]⟩ : ByteArray)) ++ ((((((((t148 ++ t149) ++ t150) ++ t151) ++ t152) ++ t153) ++ t154) ++ t155) ++ t156), 0)) else (none)) else (none))) else (none))) else (none))) else (none))) else (none))) else (none))) else (none))) else (none))) else (none)))))))) = some (r1, r2) := H
   have A11 := Aside0.mk A110
   clear A110
   replace H := Option.bind_eq_some_iff.mp H
   obtain ⟨t144, A120, H⟩ := H
   replace H : ((gangwayref09_bit.f a0_4 32).bind fun t145 => ((gangwayref09_bit.f a0_5 64).bind fun t146 => ((gangwayref09_bit.f a0_6 128).bind fun t147 => ((gangwayref01_Bytes.f k (IntKind.u64.wrap (wrap64 ((wrap64 ((wrap64 ((wrap64 ((wrap64 ((wrap64 (t142 + t143)) + (wrap64 (4 * a0_7)))) + t144)) + t145)) + t146)) + t147))) 1).bind fun t148 => ((gangwayref01_Bytes.f k a0_8 8).bind fun t149 => (if t148.size + t149.size ≤ 9223372036854775807 then ((gangwayref01_Bytes.f k (IntKind.u64.wrap (a0_9)) 4).bind fun t150 => (if (t148 ++ t149).size + t150.size ≤ 9223372036854775807 then ((gangwayref01_Bytes.f k a0_10 8).bind fun t151 => (if ((t148 ++ t149) ++ t150).size + t151.size ≤ 9223372036854775807 then ((gangwayref01_Bytes.f k (IntKind.u64.wrap (a0_11)) 2).bind fun t152 => (if (((t148 ++ t149) ++ t150) ++ t151).size + t152.size ≤ 9223372036854775807 then ((gangwayref01_Bytes.f k (IntKind.u64.wrap (a0_12)) 2).bind fun t153 => (if ((((t148 ++ t149) ++ t150) ++ t151) ++ t152).size + t153.size ≤ 9223372036854775807 then ((gangwayref01_Bytes.f k (IntKind.u64.wrap (a0_13)) 2).bind fun t154 => (if (((((t148 ++ t149) ++ t150) ++ t151) ++ t152) ++ t153).size + t154.size ≤ 9223372036854775807 then ((gangwayref01_Bytes.f k (IntKind.u64.wrap (a0_14)) 2).bind fun t155 => (if ((((((t148 ++ t149) ++ t150) ++ t151) ++ t152) ++ t153) ++ t154).size + t155.size ≤ 9223372036854775807 then ((gangwayref01_Bytes.f k (IntKind.u64.wrap (a0_15)) 2).bind fun t156 => (if (((((((t148 ++ t149) ++ t150) ++ t151) ++ t152) ++ t153) ++ t154) ++ t155).size + t156.size ≤ 9223372036854775807 then (if a0_0 = 2 then (if 5 + 2 ≤ 9223372036854775807 then (if 7 + ((((((((t148 ++ t149) ++ t150) ++ t151) ++ t152) ++ t153) ++ t154) ++ t155) ++ t156).size ≤ 9223372036854775807 then (if (((⟨#[66, 66, 3, 0, 0]⟩ : ByteArray) ++ (⟨#[2, 2]⟩ : ByteArray)) ++ ((((((((t148 ++ t149) ++ t150) ++ t151) ++ t152) ++ t153) ++ t154) ++ t155) ++ t156)).size + 1 ≤ 9223372036854775807 then (some ((((⟨#[66, 66, 3, 0, 0]⟩ : ByteArray) ++ (⟨#[2, 2]⟩ : ByteArray)) ++ ((((((((t148 ++ t149) ++ t150) ++ t151) ++ t152) ++ t153) ++ t154) ++ t155) ++ t156)) ++ (⟨#[0]⟩ : ByteArray), 0)) else (none)) else (none)) else (none)) else (if 5 + 2 ≤ 9223372036854775807 then (if 7 + ((((((((t148 ++ t149) ++ t150) ++ t151) ++ t152) ++ t153) ++ t154) ++ t155) ++ t156).size ≤ 9223372036854775807 then (some (((⟨#[66, 66, 3, 0, 0]⟩ : ByteArray) ++ (⟨#[0, 0]⟩ : ByteArray)) ++ ((((((((t148 ++ t149) ++ t150) ++ t151) ++ t152) ++ t153) ++ t154) ++ t155) ++ t156), 0)) else (none)) else (none))) else (none))) else (none))) else (none))) else (none))) else (none))) else (none))) else (none))) else (none))))))) = some (r1, r2) := H
   have A12 := Aside0.mk A120
   clear A120
   replace H := Option.bind_eq_some_iff.mp H
   obtain ⟨t145, A130, H⟩ := H
   replace H : ((gangwayref09_bit.f a0_5 64).bind fun t146 => ((gangwayref09_bit.f a0_6 128).bind fun t147 => ((gangwayref01_Bytes.f k (IntKind.u64.wrap (wrap64 ((wrap64 ((wrap64 ((wrap64 ((wrap64 ((wrap64 (t142 + t143)) + (wrap64 (4 * a0_7)))) + t144)) + t145)) + t146)) + t147))) 1).bind fun t148 => ((gangwayref01_Bytes.f k a0_8 8).bind fun t149 => (if t148.size + t149.size ≤ 9223372036854775807 then ((gangwayref01_Bytes.f k (IntKind.u64.wrap (a0_9)) 4).bind fun t150 => (if (t148 ++ t149).size + t150.size ≤ 9223372036854775807 then ((gangwayref01_Bytes.f k a0_10 8).bind fun t151 => (if ((t148 ++ t149) ++ t150).size + t151.size ≤ 9223372036854775807 then ((gangwayref01_Bytes.f k (IntKind.u64.wrap (a0_11)) 2).bind fun t152 => (if (((t148 ++ t149) ++ t150) ++ t151).size + t152.size ≤ 9223372036854775807 then ((gangwayref01_Bytes.f k (IntKind.u64.wrap (a0_12)) 2).bind fun t153 => (if ((((t148 ++ t149) ++ t150) ++ t151) ++ t152).size + t153.size ≤ 9223372036854775807 then ((gangwayref01_Bytes.f k (IntKind.u64.wrap (a0_13)) 2).bind fun t154 => (if (((((t148 ++ t149) ++ t150) ++ t151) ++ t152) ++ t153).size + t154.size ≤ 9223372036854775807 then ((gangwayref01_Bytes.f k (IntKind.u64.wrap (a0_14)) 2).bind fun t155 => (if ((((((t148 ++ t149) ++ t150) ++ t151) ++ t152) ++ t153) ++ t154).size + t155.size ≤ 9223372036854775807 then ((gangwayref01_Bytes.f k (IntKind.u64.wrap (a0_15)) 2).bind fun t156 => (if (((((((t148 ++ t149) ++ t150) ++ t151) ++ t152) ++ t153) ++ t154) ++ t155).size + t156.size ≤ 9223372036854775807 then (if a0_0 = 2 then (if 5 + 2 ≤ 9223372036854775807 then (if 7 + ((((((((t148 ++ t149) ++ t150) ++ t151) ++ t152) ++ t153) ++ t154) ++ t155) ++ t156).size ≤ 9223372036854775807 then (if (((⟨#[66, 66, 3, 0, 0]⟩ : ByteArray) ++ (⟨#[2, 2]⟩ : ByteArray)) ++ ((((((((t148 ++ t149) ++ t150) ++ t151) ++ t152) ++ t153) ++ t154) ++ t155) ++ t156)).size + 1 ≤ 9223372036854775807 then (some ((((⟨#[66, 66, 3, 0, 0]⟩ : ByteArray) ++ (⟨#[2, 2]⟩ : ByteArray)) ++ ((((((((t148 ++ t149) ++ t150) ++ t151) ++ t152) ++ t153) ++ t154) ++ t155) ++ t156)) ++ (⟨#[0]⟩ : ByteArray), 0)) else (none)) else (none)) else (none)) else (if 5 + 2 ≤ 9223372036854775807 then (if 7 + ((((((((t148 ++ t149) ++ t150) ++ t151) ++ t152) ++ t153) ++ t154) ++ t155) ++ t156).size ≤ 9223372036854775807 then (some (((⟨#[66, 66, 3, 0, 0]⟩ : ByteArray) ++ (⟨#[0, 0]⟩ : ByteArray)) ++ ((((((((t148 ++ t149) ++ t150) ++ t151) ++ t152) ++ t153) ++ t154) ++ t155) ++ t156), 0)) else (none)) else (none))) else (none))) else (none))) else (none))) else (none))) else (none))) else (none))) else (none))) else (none)))))) = some (r1, r2) := H
   have A13 := Aside0.mk A130
   clear A130
   replace H := Option.bind_eq_some_iff.mp H
   obtain ⟨t146, A140, H⟩ := H
   replace H : ((gangwayref09_bit.f a0_6 128).bind fun t147 => ((gangwayref01_Bytes.f k (IntKind.u64.wrap (wrap64 ((wrap64 ((wrap64 ((wrap64 ((wrap64 ((wrap64 (t142 + t143)) + (wrap64 (4 * a0_7)))) + t144)) + t145)) + t146)) + t147))) 1).bind fun t148 => ((gangwayref01_Bytes.f k a0_8 8).bind fun t149 => (if t148.size + t149.size ≤ 9223372036854775807 then ((gangwayref01_Bytes.f k (IntKind.u64.wrap (a0_9)) 4).bind fun t150 => (if (t148 ++ t149).size + t150.size ≤ 9223372036854775807 then ((gangwayref01_Bytes.f k a0_10 8).bind fun t151 => (if ((t148 ++ t149) ++ t150).size + t151.size ≤ 9223372036854775807 then ((gangwayref01_Bytes.f k (IntKind.u64.wrap (a0_11)) 2).bind fun t152 => (if (((t148 ++ t149) ++ t150) ++ t151).size + t152.size ≤ 9223372036854775807 then ((gangwayref01_Bytes.f k (IntKind.u64.wrap (a0_12)) 2).bind fun t153 => (if ((((t148 ++ t149) ++ t150) ++ t151) ++ t152).size + t153.size ≤ 9223372036854775807 then ((gangwayref01_Bytes.f k (IntKind.u64.wrap (a0_13)) 2).bind fun t154 => (if (((((t148 ++ t149) ++ t150) ++ t151) ++ t152) ++ t153).size + t154.size ≤ 9223372036854775807 then ((gangwayref01_Bytes.f k (IntKind.u64.wrap (a0_14)) 2).bind fun t155 => (if ((((((t148 ++ t149) ++ t150) ++ t151) ++ t152) ++ t153) ++ t154).size + t155.size ≤ 9223372036854775807 then ((gangwayref01_Bytes.f k (IntKind.u64.wrap (a0_15)) 2).bind fun t156 => (if (((((((t148 ++ t149) ++ t150) ++ t151) ++ t152) ++ t153) ++ t154) ++ t155).size + t156.size ≤ 9223372036854775807 then (if a0_0 = 2 then (if 5 + 2 ≤ 9223372036854775807 then (if 7 + ((((((((t148 ++ t149) ++ t150) ++ t151) ++ t152) ++ t153) ++ t154) ++ t155) ++ t156).size ≤ 9223372036854775807 then (if (((⟨#[66, 66, 3, 0, 0]⟩ : ByteArray) ++ (⟨#[2, 2]⟩ : ByteArray)) ++ ((((((((t148 ++ t149) ++ t150) ++ t151) ++ t152) ++ t153) ++ t154) ++ t155) ++ t156)).size + 1 ≤ 9223372036854775807 then (some ((((⟨#[66, 66, 3, 0, 0]⟩ : ByteArray) ++ (⟨#[2, 2]⟩ : ByteArray)) ++ ((((((((t148 ++ t149) ++ t150) ++ t151) ++ t152) ++ t153) ++ t154) ++ t155) ++ t156)) ++ (⟨#[0]⟩ : ByteArray), 0)) else (none)) else (none)) else (none)) else (if 5 + 2 ≤ 9223372036854775807 then (if 7 + ((((((((t148 ++ t149) ++ t150) ++ t151) ++ t152) ++ t153) ++ t154) ++ t155) ++ t156).size ≤ 9223372036854775807 then (some (((⟨#[66, 66, 3, 0, 0]⟩ : ByteArray) ++ (⟨#[0, 0]⟩ : ByteArray)) ++ ((((((((t148 ++ t149) ++ t150) ++ t151) ++ t152) ++ t153) ++ t154) ++ t155) ++ t156), 0)) else (none)) else (none))) else (none))) else (none))) else (none))) else (none))) else (none))) else (none))) else (none))) else (none))))) = some (r1, r2) := H
   have A14 := Aside0.mk A140
   clear A140
   replace H := Option.bind_eq_some_iff.mp H
   obtain ⟨t147, A150, H⟩ := H
   replace H : ((gangwayref01_Bytes.f k (IntKind.u64.wrap (wrap64 ((wrap64 ((wrap64 ((wrap64 ((wrap64 ((wrap64 (t142 + t143)) + (wrap64 (4 * a0_7)))) + t144)) + t145)) + t146)) + t147))) 1).bind fun t148 => ((gangwayref01_Bytes.f k a0_8 8).bind fun t149 => (if t148.size + t149.size ≤ 9223372036854775807 then ((gangwayref01_Bytes.f k (IntKind.u64.wrap (a0_9)) 4).bind fun t150 => (if (t148 ++ t149).size + t150.size ≤ 9223372036854775807 then ((gangwayref01_Bytes.f k a0_10 8).bind fun t151 => (if ((t148 ++ t149) ++ t150).size + t151.size ≤ 9223372036854775807 then ((gangwayref01_Bytes.f k (IntKind.u64.wrap (a0_11)) 2).bind fun t152 => (if (((t148 ++ t149) ++ t150) ++ t151).size + t152.size ≤ 9223372036854775807 then ((gangwayref01_Bytes.f k (IntKind.u64.wrap (a0_12)) 2).bind fun t153 => (if ((((t148 ++ t149) ++ t150) ++ t151) ++ t152).size + t153.size ≤ 9223372036854775807 then ((gangwayref01_Bytes.f k (IntKind.u64.wrap (a0_13)) 2).bind fun t154 => (if (((((t148 ++ t149) ++ t150) ++ t151) ++ t152) ++ t153).size + t154.size ≤ 9223372036854775807 then ((gangwayref01_Bytes.f k (IntKind.u64.wrap (a0_14)) 2).bind fun t155 => (if ((((((t148 ++ t149) ++ t150) ++ t151) ++ t152) ++ t153) ++ t154).size + t155.size ≤ 9223372036854775807 then ((gangwayref01_Bytes.f k (IntKind.u64.wrap (a0_15)) 2).bind fun t156 => (if (((((((t148 ++ t149) ++ t150) ++ t151) ++ t152) ++ t153) ++ t154) ++ t155).size + t156.size ≤ 9223372036854775807 then (if a0_0 = 2 then (if 5 + 2 ≤ 9223372036854775807 then (if 7 + ((((((((t148 ++ t149) ++ t150) ++ t151) ++ t152) ++ t153) ++ t154) ++ t155) ++ t156).size ≤ 9223372036854775807 then (if (((⟨#[66, 66, 3, 0, 0]⟩ : ByteArray) ++ (⟨#[2, 2]⟩ : ByteArray)) ++ ((((((((t148 ++ t149) ++ t150) ++ t151) ++ t152) ++ t153) ++ t154) ++ t155) ++ t156)).size + 1 ≤ 9223372036854775807 then (some ((((⟨#[66, 66, 3, 0, 0]⟩ : ByteArray) ++ (⟨#[2, 2]⟩ : ByteArray)) ++ ((((((((t148 ++ t149) ++ t150) ++ t151) ++ t152) ++ t153) ++ t154) ++ t155) ++ t156)) ++ (⟨#[0]⟩ : ByteArray), 0)) else (none)) else (none)) else (none)) else (if 5 + 2 ≤ 9223372036854775807 then (if 7 + ((((((((t148 ++ t149) ++ t150) ++ t151) ++ t152) ++ t153) ++ t154) ++ t155) ++ t156).size ≤ 9223372036854775807 then (some (((⟨#[66, 66, 3, 0, 0]⟩ : ByteArray) ++ (⟨#[0, 0]⟩ : ByteArray)) ++ ((((((((t148 ++ t149) ++ t150) ++ t151) ++ t152) ++ t153) ++ t154) ++ t155) ++ t156), 0)) else (none)) else (none))) else (none))) else (none))) else (none))) else (none))) else (none))) else (none))) else (none))) else (none)))) = some (r1, r2) := H
   have A15 := Aside0.mk A150
   clear A150
   replace H := Option.bind_eq_some_iff.mp H
   obtain ⟨t148, A160, H⟩ := H
   replace H : ((gangwayref01_Bytes.f k a0_8 8).bind fun t149 => (if t148.size + t149.size ≤ 9223372036854775807 then ((gangwayref01_Bytes.f k (IntKind.u64.wrap (a0_9)) 4).bind fun t150 => (if (t148 ++ t149).size + t150.size ≤ 9223372036854775807 then ((gangwayref01_Bytes.f k a0_10 8).bind fun t151 => (if ((t148 ++ t149) ++ t150).size + t151.size ≤ 9223372036854775807 then ((gangwayref01_Bytes.f k (IntKind.u64.wrap (a0_11)) 2).bind fun t152 => (if (((t148 ++ t149) ++ t150) ++ t151).size + t152.size ≤ 9223372036854775807 then ((gangwayref01_Bytes.f k (IntKind.u64.wrap (a0_12)) 2).bind fun t153 => (if ((((t148 ++ t149) ++ t150) ++ t151) ++ t152).size + t153.size ≤ 9223372036854775807 then ((gangwayref01_Bytes.f k (IntKind.u64.wrap (a0_13)) 2).bind fun t154 => (if (((((t148 ++ t149) ++ t150) ++ t151) ++ t152) ++ t153).size + t154.size ≤ 9223372036854775807 then ((gangwayref01_Bytes.f k (IntKind.u64.wrap (a0_14)) 2).bind fun t155 => (if ((((((t148 ++ t149) ++ t150) ++ t151) ++ t152) ++ t153) ++ t154).size + t155.size ≤ 9223372036854775807 then ((gangwayref01_Bytes.f k (IntKind.u64.wrap (a0_15)) 2).bind fun t156 => (if (((((((t148 ++ t149) ++ t150) ++ t151) ++ t152) ++ t153) ++ t154) ++ t155).size + t156.size ≤ 9223372036854775807 then (if a0_0 = 2 then (if 5 + 2 ≤ 9223372036854775807 then (if 7 + ((((((((t148 ++ t149) ++ t150) ++ t151) ++ t152) ++ t153) ++ t154) ++ t155) ++ t156).size ≤ 9223372036854775807 then (if (((⟨#[66, 66, 3, 0, 0]⟩ : ByteArray) ++ (⟨#[2, 2]⟩ : ByteArray)) ++ ((((((((t148 ++ t149) ++ t150) ++ t151) ++ t152) ++ t153) ++ t154) ++ t155) ++ t156)).size + 1 ≤ 9223372036854775807 then (some ((((⟨#[66, 66, 3, 0, 0]⟩ : ByteArray) ++ (⟨#[2, 2]⟩ : ByteArray)) ++ ((((((((t148 ++ t149) ++ t150) ++ t151) ++ t152) ++ t153) ++ t154) ++ t155) ++ t156)) ++ (⟨#[0]⟩ : ByteArray), 0)) else (none)) else (none)) else (none)) else (if 5 + 2 ≤ 9223372036854775807 then (if 7 + ((((((((t148 ++ t149) ++ t150) ++ t151) ++ t152) ++ t153) ++ t154) ++ t155) ++ t156).size ≤ 9223372036854775807 then (some (((⟨#[66, 66, 3, 0, 0]⟩ : ByteArray) ++ (⟨#[0, 0]⟩ : ByteArray)) ++ ((((((((t148 ++ t149) ++ t150) ++ t151) ++ t152) ++ t153) ++ t154) ++ t155) ++ t156), 0)) else (none)) else (none))) else (none))) else (none))) else (none))) else (none))) else (none))) else (none))) else (none))) else (none))) = some (r1, r2) := H
   have A16 := Aside0.mk A160
   clear A160
   replace H := Option.bind_eq_some_iff.mp H
   obtain ⟨t149, A170, H⟩ := H
   replace H : (if t148.size + t149.size ≤ 9223372036854775807 then ((gangwayref01_Bytes.f k (IntKind.u64.wrap (a0_9)) 4).bind fun t150 => (if (t148 ++ t149).size + t150.size ≤ 9223372036854775807 then ((gangwayref01_Bytes.f k a0_10 8).bind fun t151 => (if ((t148 ++ t149) ++ t150).size + t151.size ≤ 9223372036854775807 then ((gangwayref01_Bytes.f k (IntKind.u64.wrap (a0_11)) 2).bind fun t152 => (if (((t148 ++ t149) ++ t150) ++ t151).size + t152.size ≤ 9223372036854775807 then ((gangwayref01_Bytes.f k (IntKind.u64.wrap (a0_12)) 2).bind fun t153 => (if ((((t148 ++ t149) ++ t150) ++ t151) ++ t152).size + t153.size ≤ 9223372036854775807 then ((gangwayref01_Bytes.f k (IntKind.u64.wrap (a0_13)) 2).bind fun t154 => (if (((((t148 ++ t149) ++ t150) ++ t151) ++ t152) ++ t153).size + t154.size ≤ 9223372036854775807 then ((gangwayref01_Bytes.f k (IntKind.u64.wrap (a0_14)) 2).bind fun t155 => (if ((((((t148 ++ t149) ++ t150) ++ t151) ++ t152) ++ t153) ++ t154).size + t155.size ≤ 9223372036854775807 then ((gangwayref01_Bytes.f k (IntKind.u64.wrap (a0_15)) 2).bind fun t156 => (if (((((((t148 ++ t149) ++ t150) ++ t151) ++ t152) ++ t153) ++ t154) ++ t155).size + t156.size ≤ 9223372036854775807 then (if a0_0 = 2 then (if 5 + 2 ≤ 9223372036854775807 then (if 7 + ((((((((t148 ++ t149) ++ t150) ++ t151) ++ t152) ++ t153) ++ t154) ++ t155) ++ t156).size ≤ 9223372036854775807 then (if (((⟨#[66, 66, 3, 0, 0]⟩ : ByteArray) ++ (⟨#[2, 2]⟩ : ByteArray)) ++ ((((((((t148 ++ t149) ++ t150) ++ t151) ++ t152) ++ t153) ++ t154) ++ t155) ++ t156)).size + 1 ≤ 9223372036854775807 then (some ((((⟨#[66, 66, 3, 0, 0]⟩ : ByteArray) ++ (⟨#[2, 2]⟩ : ByteArray)) ++ ((((((((t148 ++ t149) ++ t150) ++ t151) ++ t152) ++ t153) ++ t154) ++ t155) ++ t156)) ++ (⟨#[0]⟩ : ByteArray), 0)) else (none)) else (none)) else (none)) else (if 5 + 2 ≤ 9223372036854775807 then (if 7 + ((((((((t148 ++ t149) ++ t150) ++ t151) ++ t152) ++ t153) ++ t154) ++ t155) ++ t156).size ≤ 9223372036854775807 then (some (((⟨#[66, 66, 3, 0, 0]⟩ : ByteArray) ++ (⟨#[0, 0]⟩ : ByteArray)) ++ ((((((((t148 ++ t149) ++ t150) ++ t151) ++ t152) ++ t153) ++ t154) ++ t155) ++ t156), 0)) else (none)) else (none))) else (none))) else (none))) else (none))) else (none))) else (none))) else (none))) else (none))) else (none)) = some (r1, r2) := H
   have A17 := Aside0.mk A170
   clear A170
   by_cases c18 : t148.size + t149.size ≤ 9223372036854775807
   ·rw [if_pos c18] at H
    have c18b0 := eq_true c18
    have c18b1 : decide (t148.size + t149.size ≤ 9223372036854775807) = true := decide_eq_true c18
    try have c18b2 : (9223372036854775807 < t148.size + t149.size) = False := eq_false (Nat.not_lt.2 c18)
    replace H := Option.bind_eq_some_iff.mp H
    obtain ⟨t150, A190, H⟩ := H
    replace H : (if (t148 ++ t149).size + t150.size ≤ 9223372036854775807 then ((gangwayref01_Bytes.f k a0_10 8).bind fun t151 => (if ((t148 ++ t149) ++ t150).size + t151.size ≤ 9223372036854775807 then ((gangwayref01_Bytes.f k (IntKind.u64.wrap (a0_11)) 2).bind fun t152 => (if (((t148 ++ t149) ++ t150) ++ t151).size + t152.size ≤ 9223372036854775807 then ((gangwayref01_Bytes.f k (IntKind.u64.wrap (a0_12)) 2).bind fun t153 => (if ((((t148 ++ t149) ++ t150) ++ t151) ++ t152).size + t153.size ≤ 9223372036854775807 then ((gangwayref01_Bytes.f k (IntKind.u64.wrap (a0_13)) 2).bind fun t154 => (if (((((t148 ++ t149) ++ t150) ++ t151) ++ t152) ++ t153).size + t154.size ≤ 9223372036854775807 then ((gangwayref01_Bytes.f k (IntKind.u64.wrap (a0_14)) 2).bind fun t155 => (if ((((((t148 ++ t149) ++ t150) ++ t151) ++ t152) ++ t153) ++ t154).size + t155.size ≤ 9223372036854775807 then ((gangwayref01_Bytes.f k (IntKind.u64.wrap (a0_15)) 2).bind fun t156 => (if (((((((t148 ++ t149) ++ t150) ++ t151) ++ t152) ++ t153) ++ t154) ++ t155).size + t156.size ≤ 9223372036854775807 then (if a0_0 = 2 then (if 5 + 2 ≤ 9223372036854775807 then (if 7 + ((((((((t148 ++ t149) ++ t150) ++ t151) ++ t152) ++ t153) ++ t154) ++ t155) ++ t156).size ≤ 9223372036854775807 then (if (((⟨#[66, 66, 3, 0, 0]⟩ : ByteArray) ++ (⟨#[2, 2]⟩ : ByteArray)) ++ ((((((((t148 ++ t149) ++ t150) ++ t151) ++ t152) ++ t153) ++ t154) ++ t155) ++ t156)).size + 1 ≤ 9223372036854775807 then (some ((((⟨#[66, 66, 3, 0, 0]⟩ : ByteArray) ++ (⟨#[2, 2]⟩ : ByteArray)) ++ ((((((((t148 ++ t149) ++ t150) ++ t151) ++ t152) ++ t153) ++ t154) ++ t155) ++ t156)) ++ (⟨#[0]⟩ : ByteArray), 0)) else (none)) else (none)) else (none)) else (if 5 + 2 ≤ 9223372036854775807 then (if 7 + ((((((((t148 ++ t149) ++ t150) ++ t151) ++ t152) ++ t153) ++ t154) ++ t155) ++ t156).size ≤ 9223372036854775807 then (some (((⟨#[66, 66, 3, 0, 0]⟩ : ByteArray) ++ (⟨#[0, 0]⟩ : ByteArray)) ++ ((((((((t148 ++ t149) ++ t150) ++ t151) ++ t152) ++ t153) ++ t154) ++ t155) ++ t156), 0)) else (none)) else (none))) else (none))) else (none))) else (none))) else (none))) else (none))) else (none))) else (none)) = some (r1, r2) := H
    have A19 := Aside0.mk A190
    clear A190
    by_cases c20 : (t148 ++ t149).size + t150.size ≤ 9223372036854775807
    ·rw [if_pos c20] at H
     have c20b0 := eq_true c20
     have c20b1 : decide ((t148 ++ t149).size + t150.size ≤ 9223372036854775807) = true := decide_eq_true c20
     have c20z := c20
     simp only [ByteArray.size_append] at c20z
     have c20z1 := eq_true c20z
     have c20z2 := eq_false (Nat.not_lt.2 c20z)
     try have c20b2 : (9223372036854775807 < (t148 ++ t149).size + t150.size) = False := eq_false (Nat.not_lt.2 c20)
     replace H := Option.bind_eq_some_iff.mp H
     obtain ⟨t151, A210, H⟩ := H
     replace H : (if ((t148 ++ t149) ++ t150).size + t151.size ≤ 9223372036854775807 then ((gangwayref01_Bytes.f k (IntKind.u64.wrap (a0_11)) 2).bind fun t152 => (if (((t148 ++ t149) ++ t150) ++ t151).size + t152.size ≤ 9223372036854775807 then ((gangwayref01_Bytes.f k (IntKind.u64.wrap (a0_12)) 2).bind fun t153 => (if ((((t148 ++ t149) ++ t150) ++ t151) ++ t152).size + t153.size ≤ 9223372036854775807 then ((gangwayref01_Bytes.f k (IntKind.u64.wrap (a0_13)) 2).bind fun t154 => (if (((((t148 ++ t149) ++ t150) ++ t151) ++ t152) ++ t153).size + t154.size ≤ 9223372036854775807 then ((gangwayref01_Bytes.f k (IntKind.u64.wrap (a0_14)) 2).bind fun t155 => (if ((((((t148 ++ t149) ++ t150) ++ t151) ++ t152) ++ t153) ++ t154).size + t155.size ≤ 9223372036854775807 then ((gangwayref01_Bytes.f k (IntKind.u64.wrap (a0_15)) 2).bind fun t156 => (if (((((((t148 ++ t149) ++ t150) ++ t151) ++ t152) ++ t153) ++ t154) ++ t155).size + t156.size ≤ 9223372036854775807 then (if a0_0 = 2 then (if 5 + 2 ≤ 9223372036854775807 then (if 7 + ((((((((t148 ++ t149) ++ t150) ++ t151) ++ t152) ++ t153) ++ t154) ++ t155) ++ t156).size ≤ 9223372036854775807 then (if (((⟨#[66, 66, 3, 0, 0]⟩ : ByteArray) ++ (⟨#[2, 2]⟩ : ByteArray)) ++ ((((((((t148 ++ t149) ++ t150) ++ t151) ++ t152) ++ t153) ++ t154) ++ t155) ++ t156)).size + 1 ≤ 9223372036854775807 then (some ((((⟨#[66, 66, 3, 0, 0]⟩ : ByteArray) ++ (⟨#[2, 2]⟩ : ByteArray)) ++ ((((((((t148 ++ t149) ++ t150) ++ t151) ++ t152) ++ t153) ++ t154) ++ t155) ++ t156)) ++ (⟨#[0]⟩ : ByteArray), 0)) else (none)) else (none)) else (none)) else (if 5 + 2 ≤ 9223372036854775807 then (if 7 + ((((((((t148 ++ t149) ++ t150) ++ t151) ++ t152) ++ t153) ++ t154) ++ t155) ++ t156).size ≤ 9223372036854775807 then (some (((⟨#[66, 66, 3, 0, 0]⟩ : ByteArray) ++ (⟨#[0, 0]⟩ : ByteArray)) ++ ((((((((t148 ++ t149) ++ t150) ++ t151) ++ t152) ++ t153) ++ t154) ++ t155) ++ t156), 0)) else (none)) else (none))) else (none))) else (none))) else (none))) else (none))) else (none))) else (none)) = some (r1, r2) := H
     have A21 := Aside0.mk A210
     clear A210
     by_cases c22 : ((t148 ++ t149) ++ t150).size + t151.size ≤ 9223372036854775807
     ·rw [if_pos c22] at H
      have c22b0 := eq_true c22
      have c22b1 : decide (((t148 ++ t149) ++ t150).size + t151.size ≤ 9223372036854775807) = true := decide_eq_true c22
      have c22z := c22
      simp only [ByteArray.size_append] at c22z
      have c22z1 := eq_true c22z
      have c22z2 := eq_false (Nat.not_lt.2 c22z)
      try have c22b2 : (9223372036854775807 < ((t148 ++ t149) ++ t150).size + t151.size) = False := eq_false (Nat.not_lt.2 c22)
      replace H := Option.bind_eq_some_iff.mp H
      obtain ⟨t152, A230, H⟩ := H
      replace H : (if (((t148 ++ t149) ++ t150) ++ t151).size + t152.size ≤ 9223372036854775807 then ((gangwayref01_Bytes.f k (IntKind.u64.wrap (a0_12)) 2).bind fun t153 => (if ((((t148 ++ t149) ++ t150) ++ t151) ++ t152).size + t153.size ≤ 9223372036854775807 then ((gangwayref01_Bytes.f k (IntKind.u64.wrap (a0_13)) 2).bind fun t154 => (if (((((t148 ++ t149) ++ t150) ++ t151) ++ t152) ++ t153).size + t154.size ≤ 9223372036854775807 then ((gangwayref01_Bytes.f k (IntKind.u64.wrap (a0_14)) 2).bind fun t155 => (if ((((((t148 ++ t149) ++ t150) ++ t151) ++ t152) ++ t153) ++ t154).size + t155.size ≤ 9223372036854775807 then ((gangwayref01_Bytes.f k (IntKind.u64.wrap (a0_15)) 2).bind fun t156 => (if (((((((t148 ++ t149) ++ t150) ++ t151) ++ t152) ++ t153) ++ t154) ++ t155).size + t156.size ≤ 9223372036854775807 then (if a0_0 = 2 then (if 5 + 2 ≤ 9223372036854775807 then (if 7 + ((((((((t148 ++ t149) ++ t150) ++ t151) ++ t152) ++ t153) ++ t154) ++ t155) ++ t156).size ≤ 9223372036854775807 then (if (((⟨#[66, 66, 3, 0, 0]⟩ : ByteArray) ++ (⟨#[2, 2]⟩ : ByteArray)) ++ ((((((((t148 ++ t149) ++ t150) ++ t151) ++ t152) ++ t153) ++ t154) ++ t155) ++ t156)).size + 1 ≤ 9223372036854775807 then (some ((((⟨#[66, 66, 3, 0, 0]⟩ : ByteArray) ++ (⟨#[2, 2]⟩ : ByteArray)) ++ ((((((((t148 ++ t149) ++ t150) ++ t151) ++ t152) ++ t153) ++ t154) ++ t155) ++ t156)) ++ (⟨#[0]⟩ : ByteArray), 0)) else (none)) else (none)) else (none)) else (if 5 + 2 ≤ 9223372036854775807 then (if 7 + ((((((((t148 ++ t149) ++ t150) ++ t151) ++ t152) ++ t153) ++ t154) ++ t155) ++ t156).size ≤ 9223372036854775807 then (some (((⟨#[66, 66, 3, 0, 0]⟩ : ByteArray) ++ (⟨#[0, 0]⟩ : ByteArray)) ++ ((((((((t148 ++ t149) ++ t150) ++ t151) ++ t152) ++ t153) ++ t154) ++ t155) ++ t156), 0)) else (none)) else (none))) else (none))) else (none))) else (none))) else (none))) else (none)) = some (r1, r2) := H
      have A23 := Aside0.mk A230
      clear A230
      by_cases c24 : (((t148 ++ t149) ++ t150) ++ t151).size + t152.size ≤ 9223372036854775807
      ·rw [if_pos c24] at H
       have c24b0 := eq_true c24
       have c24b1 : decide ((((t148 ++ t149) ++ t150) ++ t151).size + t152.size ≤ 9223372036854775807) = true := decide_eq_true c24
       have c24z := c24
       simp only [ByteArray.size_append] at c24z
       have c24z1 := eq_true c24z
       have c24z2 := eq_false (Nat.not_lt.2 c24z)
       try have c24b2 : (9223372036854775807 < (((t148 ++ t149) ++ t150) ++ t151).size + t152.size) = False := eq_false (Nat.not_lt.2 c24)
       replace H := Option.bind_eq_some_iff.mp H
       obtain ⟨t153, A250, H⟩ := H
       replace H : (if ((((t148 ++ t149) ++ t150) ++ t151) ++ t152).size + t153.size ≤ 9223372036854775807 then ((gangwayref01_Bytes.f k (IntKind.u64.wrap (a0_13)) 2).bind fun t154 => (if (((((t148 ++ t149) ++ t150) ++ t151) ++ t152) ++ t153).size + t154.size ≤ 9223372036854775807 then ((gangwayref01_Bytes.f k (IntKind.u64.wrap (a0_14)) 2).bind fun t155 => (if ((((((t148 ++ t149) ++ t150) ++ t151) ++ t152) ++ t153) ++ t154).size + t155.size ≤ 9223372036854775807 then ((gangwayref01_Bytes.f k (IntKind.u64.wrap (a0_15)) 2).bind fun t156 => (if (((((((t148 ++ t149) ++ t150) ++ t151) ++ t152) ++ t153) ++ t154) ++ t155).size + t156.size ≤ 9223372036854775807 then (if a0_0 = 2 then (if 5 + 2 ≤ 9223372036854775807 then (if 7 + ((((((((t148 ++ t149) ++ t150) ++ t151) ++ t152) ++ t153) ++ t154) ++ t155) ++ t156).size ≤ 9223372036854775807 then (if (((⟨#[66, 66, 3, 0, 0]⟩ : ByteArray) ++ (⟨#[2, 2]⟩ : ByteArray)) ++ ((((((((t148 ++ t149) ++ t150) ++ t151) ++ t152) ++ t153) ++ t154) ++ t155) ++ t156)).size + 1 ≤ 9223372036854775807 then (some ((((⟨#[66, 66, 3, 0, 0]⟩ : ByteArray) ++ (⟨#[2, 2]⟩ : ByteArray)) ++ ((((((((t148 ++ t149) ++ t150) ++ t151) ++ t152) ++ t153) ++ t154) ++ t155) ++ t156)) ++ (⟨#[0]⟩ : ByteArray), 0)) else (none)) else (none)) else (none)) else (if 5 + 2 ≤ 9223372036854775807 then (if 7 + ((((((((t148 ++ t149) ++ t150) ++ t151) ++ t152) ++ t153) ++ t154) ++ t155) ++ t156).size ≤ 9223372036854775807 then (some (((⟨#[66, 66, 3, 0, 0]⟩ : ByteArray) ++ (⟨#[0, 0]⟩ : ByteArray)) ++ ((((((((t148 ++ t149) ++ t150) ++ t151) ++ t152) ++ t153) ++ t154) ++ t155) ++ t156), 0)) else (none)) else (none))) else (none))) else (none))) else (none))) else (none)) = some (r1, r2) := H
       have A25 := Aside0.mk A250
       clear A250
       by_cases c26 : ((((t148 ++ t149) ++ t150) ++ t151) ++ t152).size + t153.size ≤ 9223372036854775807
       ·rw [if_pos c26] at H
        have c26b0 := eq_true c26
        have c26b1 : decide (((((t148 ++ t149) ++ t150) ++ t151) ++ t152).size + t153.size ≤ 9223372036854775807) = true := decide_eq_true c26
        have c26z := c26
        simp only [ByteArray.size_append] at c26z
        have c26z1 := eq_true c26z
        have c26z2 := eq_false (Nat.not_lt.2 c26z)
        try have c26b2 : (9223372036854775807 < ((((t148 ++ t149) ++ t150) ++ t151) ++ t152).size + t153.size) = False := eq_false (Nat.not_lt.2 c26)
        replace H := Option.bind_eq_some_iff.mp H
        obtain ⟨t154, A270, H⟩ := H
        replace H : (if (((((t148 ++ t149) ++ t150) ++ t151) ++ t152) ++ t153).size + t154.size ≤ 9223372036854775807 then ((gangwayref01_Bytes.f k (IntKind.u64.wrap (a0_14)) 2).bind fun t155 => (if ((((((t148 ++ t149) ++ t150) ++ t151) ++ t152) ++ t153) ++ t154).size + t155.size ≤ 9223372036854775807 then ((gangwayref01_Bytes.f k (IntKind.u64.wrap (a0_15)) 2).bind fun t156 => (if (((((((t148 ++ t149) ++ t150) ++ t151) ++ t152) ++ t153) ++ t154) ++ t155).size + t156.size ≤ 9223372036854775807 then (if a0_0 = 2 then (if 5 + 2 ≤ 9223372036854775807 then (if 7 + ((((((((t148 ++ t149) ++ t150) ++ t151) ++ t152) ++ t153) ++ t154) ++ t155) ++ t156).size ≤ 9223372036854775807 then (if (((⟨#[66, 66, 3, 0, 0]⟩ : ByteArray) ++ (⟨#[2, 2]⟩ : ByteArray)) ++ ((((((((t148 ++ t149) ++ t150) ++ t151) ++ t152) ++ t153) ++ t154) ++ t155) ++ t156)).size + 1 ≤ 9223372036854775807 then (some ((((⟨#[66, 66, 3, 0, 0]⟩ : ByteArray) ++ (⟨#[2, 2]⟩ : ByteArray)) ++ ((((((((t148 ++ t149) ++ t150) ++ t151) ++ t152) ++ t153) ++ t154) ++ t155) ++ t156)) ++ (⟨#[0]⟩ : ByteArray), 0)) else (none)) else (none)) else (none)) else (if 5 + 2 ≤ 9223372036854775807 then (if 7 + ((((((((t148 ++ t149) ++ t150) ++ t151) ++ t152) ++ t153) ++ t154) ++ t155) ++ t156).size ≤ 9223372036854775807 then (some (((⟨#[66, 66, 3, 0, 0]⟩ : ByteArray) ++ (⟨#[0, 0]⟩ : ByteArray)) ++ ((((((((t148 ++ t149) ++ t150) ++ t151) ++ t152) ++ t153) ++ t154) ++ t155) ++ t156), 0)) else (none)) else (none))) else (none))) else (none))) else (none)) = some (r1, r2) := H
        have A27 := Aside0.mk A270
        clear A270
        by_cases c28 : (((((t148 ++ t149) ++ t150) ++ t151) ++ t152) ++ t153).size + t154.size ≤ 9223372036854775807
        ·rw [if_pos c28] at H
         have c28b0 := eq_true c28
         have c28b1 : decide ((((((t148 ++ t149) ++ t150) ++ t151) ++ t152) ++ t153).size + t154.size ≤ 9223372036854775807) = true := decide_eq_true c28
         have c28z := c28
         simp only [ByteArray.size_append] at c28z
         have c28z1 := eq_true c28z
         have c28z2 := eq_false (Nat.not_lt.2 c28z)
         try have c28b2 : (9223372036854775807 < (((((t148 ++ t149) ++ t150) ++ t151) ++ t152) ++ t153).size + t154.size) = False := eq_false (Nat.not_lt.2 c28)
         replace H := Option.bind_eq_some_iff.mp H
         obtain ⟨t155, A290, H⟩ := H
         replace H : (if ((((((t148 ++ t149) ++ t150) ++ t151) ++ t152) ++ t153) ++ t154).size + t155.size ≤ 9223372036854775807 then ((gangwayref01_Bytes.f k (IntKind.u64.wrap (a0_15)) 2).bind fun t156 => (if (((((((t148 ++ t149) ++ t150) ++ t151) ++ t152) ++ t153) ++ t154) ++ t155).size + t156.size ≤ 9223372036854775807 then (if a0_0 = 2 then (if 5 + 2 ≤ 9223372036854775807 then (if 7 + ((((((((t148 ++ t149) ++ t150) ++ t151) ++ t152) ++ t153) ++ t154) ++ t155) ++ t156).size ≤ 9223372036854775807 then (if (((⟨#[66, 66, 3, 0, 0]⟩ : ByteArray) ++ (⟨#[2, 2]⟩ : ByteArray)) ++ ((((((((t148 ++ t149) ++ t150) ++ t151) ++ t152) ++ t153) ++ t154) ++ t155) ++ t156)).size + 1 ≤ 9223372036854775807 then (some ((((⟨#[66, 66, 3, 0, 0]⟩ : ByteArray) ++ (⟨#[2, 2]⟩ : ByteArray)) ++ ((((((((t148 ++ t149) ++ t150) ++ t151) ++ t152) ++ t153) ++ t154) ++ t155) ++ t156)) ++ (⟨#[0]⟩ : ByteArray), 0)) else (none)) else (none)) else (none)) else (if 5 + 2 ≤ 9223372036854775807 then (if 7 + ((((((((t148 ++ t149) ++ t150) ++ t151) ++ t152) ++ t153) ++ t154) ++ t155) ++ t156).size ≤ 9223372036854775807 then (some (((⟨#[66, 66, 3, 0, 0]⟩ : ByteArray) ++ (⟨#[0, 0]⟩ : ByteArray)) ++ ((((((((t148 ++ t149) ++ t150) ++ t151) ++ t152) ++ t153) ++ t154) ++ t155) ++ t156), 0)) else (none)) else (none))) else (none))) else (none)) = some (r1, r2) := H
         have A29 := Aside0.mk A290
         clear A290
         by_cases c30 : ((((((t148 ++ t149) ++ t150) ++ t151) ++ t152) ++ t153) ++ t154).size + t155.size ≤ 9223372036854775807
         ·rw [if_pos c30] at H
          have c30b0 := eq_true c30
          have c30b1 : decide (((((((t148 ++ t149) ++ t150) ++ t151) ++ t152) ++ t153) ++ t154).size + t155.size ≤ 9223372036854775807) = true := decide_eq_true c30
          have c30z := c30
          simp only [ByteArray.size_append] at c30z
          have c30z1 := eq_true c30z
          have c30z2 := eq_false (Nat.not_lt.2 c30z)
          try have c30b2 : (9223372036854775807 < ((((((t148 ++ t149) ++ t150) ++ t151) ++ t152) ++ t153) ++ t154).size + t155.size) = False := eq_false (Nat.not_lt.2 c30)
          replace H := Option.bind_eq_some_iff.mp H
          obtain ⟨t156, A310, H⟩ := H
          replace H : (if (((((((t148 ++ t149) ++ t150) ++ t151) ++ t152) ++ t153) ++ t154) ++ t155).size + t156.size ≤ 9223372036854775807 then (if a0_0 = 2 then (if 5 + 2 ≤ 9223372036854775807 then (if 7 + ((((((((t148 ++ t149) ++ t150) ++ t151) ++ t152) ++ t153) ++ t154) ++ t155) ++ t156).size ≤ 9223372036854775807 then (if (((⟨#[66, 66, 3, 0, 0]⟩ : ByteArray) ++ (⟨#[2, 2]⟩ : ByteArray)) ++ ((((((((t148 ++ t149) ++ t150) ++ t151) ++ t152) ++ t153) ++ t154) ++ t155) ++ t156)).size + 1 ≤ 9223372036854775807 then (some ((((⟨#[66, 66, 3, 0, 0]⟩ : ByteArray) ++ (⟨#[2, 2]⟩ : ByteArray)) ++ ((((((((t148 ++ t149) ++ t150) ++ t151) ++ t152) ++ t153) ++ t154) ++ t155) ++ t156)) ++ (⟨#[0]⟩ : ByteArray), 0)) else (none)) else (none)) else (none)) else (if 5 + 2 ≤ 9223372036854775807 then (if 7 + ((((((((t148 ++ t149) ++ t150) ++ t151) ++ t152) ++ t153) ++ t154) ++ t155) ++ t156).size ≤ 9223372036854775807 then (some (((⟨#[66, 66, 3, 0, 0]⟩ : ByteArray) ++ (⟨#[0, 0]⟩ : ByteArray)) ++ ((((((((t148 ++ t149) ++ t150) ++ t151) ++ t152) ++ t153) ++ t154) ++ t155) ++ t156), 0)) else (none)) else (none))) else (none)) = some (r1, r2) := H
          have A31 := Aside0.mk A310
          clear A310
          by_cases c32 : (((((((t148 ++ t149) ++ t150) ++ t151) ++ t152) ++ t153) ++ t154) ++ t155).size + t156.size ≤ 9223372036854775807
          ·rw [if_pos c32] at H
           have c32b0 := eq_true c32
           have c32b1 : decide ((((((((t148 ++ t149) ++ t150) ++ t151) ++ t152) ++ t153) ++ t154) ++ t155).size + t156.size ≤ 9223372036854775807) = true := decide_eq_true c32
           have c32z := c32
           simp only [ByteArray.size_append] at c32z
           have c32z1 := eq_true c32z
           have c32z2 := eq_false (Nat.not_lt.2 c32z)
           try have c32b2 : (9223372036854775807 < (((((((t148 ++ t149) ++ t150) ++ t151) ++ t152) ++ t153) ++ t154) ++ t155).size + t156.size) = False := eq_false (Nat.not_lt.2 c32)
           by_cases c33 : a0_0 = 2
           ·rw [if_pos c33] at H
            have c33b0 : (a0_0 == 2) = true := beq_iff_eq.mpr c33
            have c33b1 : (a0_0 != 2) = false := bne_eq_false_iff_eq.mpr c33
            clear c33
            by_cases c34 : 5 + 2 ≤ 9223372036854775807
            ·rw [if_pos c34] at H
             have c34b0 := eq_true c34
             have c34b1 : decide (5 + 2 ≤ 9223372036854775807) = true := decide_eq_true c34
             try have c34b2 : (9223372036854775807 < 5 + 2) = False := eq_false (Nat.not_lt.2 c34)
             by_cases c35 : 7 + ((((((((t148 ++ t149) ++ t150) ++ t151) ++ t152) ++ t153) ++ t154) ++ t155) ++ t156).size ≤ 9223372036854775807
             ·rw [if_pos c35] at H
              have c35b0 := eq_true c35
              have c35b1 : decide (7 + ((((((((t148 ++ t149) ++ t150) ++ t151) ++ t152) ++ t153) ++ t154) ++ t155) ++ t156).size ≤ 9223372036854775807) = true := decide_eq_true c35
              have c35z := c35
              simp only [ByteArray.size_append] at c35z
              have c35z1 := eq_true c35z
              have c35z2 := eq_false (Nat.not_lt.2 c35z)
              try have c35b2 : (9223372036854775807 < 7 + ((((((((t148 ++ t149) ++ t150) ++ t151) ++ t152) ++ t153) ++ t154) ++ t155) ++ t156).size) = False := eq_false (Nat.not_lt.2 c35)
              by_cases c36 : (((⟨#[66, 66, 3, 0, 0]⟩ : ByteArray) ++ (⟨#[2, 2]⟩ : ByteArray)) ++ ((((((((t148 ++ t149) ++ t150) ++ t151) ++ t152) ++ t153) ++ t154) ++ t155) ++ t156)).size + 1 ≤ 9223372036854775807
              ·rw [if_pos c36] at H
               have c36b0 := eq_true c36
               have c36b1 : decide ((((⟨#[66, 66, 3, 0, 0]⟩ : ByteArray) ++ (⟨#[2, 2]⟩ : ByteArray)) ++ ((((((((t148 ++ t149) ++ t150) ++ t151) ++ t152) ++ t153) ++ t154) ++ t155) ++ t156)).size + 1 ≤ 9223372036854775807) = true := decide_eq_true c36
               have c36z := c36
               simp only [ByteArray.size_append] at c36z
               have c36z1 := eq_true c36z
               have c36z2 := eq_false (Nat.not_lt.2 c36z)
               have c36n := eq_false (show ¬ (9223372036854775807 < 7 + (t148.size + t149.size + t150.size + t151.size + t152.size + t153.size + t154.size + t155.size + t156.size) + 1) from by have h5_ : (⟨#[66, 66, 3, 0, 0]⟩ : ByteArray).size = 5 := rfl; have h2_ : (⟨#[2, 2]⟩ : ByteArray).size = 2 := rfl; have h3_ := c36z; rw [h5_, h2_] at h3_; omega)
               try have c36b2 : (9223372036854775807 < (((⟨#[66, 66, 3, 0, 0]⟩ : ByteArray) ++ (⟨#[2, 2]⟩ : ByteArray)) ++ ((((((((t148 ++ t149) ++ t150) ++ t151) ++ t152) ++ t153) ++ t154) ++ t155) ++ t156)).size + 1) = False := eq_false (Nat.not_lt.2 c36)
               simp only [Option.some.injEq, Prod.mk.injEq] at H
               obtain ⟨rfl, rfl⟩ := H
               go_enter Tryd.func9, Tryd.ntmps9
               try go_wp2_with (first | ((with_reducible refine gate_st (ty := 24) rfl ?_); (try (with_reducible refine gate_gd rfl ?_; refine gate_guard (by first | rfl | exact wanted_on rfl rfl rfl (by first | rfl | (simp [*]; done))) ?_; dsimp only)); refine storeC16 rfl rfl rfl rfl rfl (by repeat (first | (with_reducible apply blk_far; case hp => assumption) | (with_reducible apply blk_set) | (with_reducible refine blk_drewN ?_ _) | (with_reducible refine blk_drew ?_) | (with_reducible refine blk_alloc ?_ _) | (first | with_reducible exact BK140.out))) (by first | (simp only [List.setIfInBounds_toArray, List.set_cons_zero, List.set_cons_succ] <;> rfl) | rfl) (by kernel_rfl) rfl ?_) | ((with_reducible refine gate_ld (ty := 24) rfl ?_); (try (with_reducible refine gate_gd rfl ?_; refine gate_guard (by first | rfl | exact wanted_on rfl rfl rfl (by first | rfl | (simp [*]; done))) ?_; dsimp only)); refine load_st rfl rfl rfl (by repeat (first | (with_reducible apply blk_far; case hp => assumption) | (with_reducible apply blk_set) | (with_reducible refine blk_drewN ?_ _) | (with_reducible refine blk_drew ?_) | (with_reducible refine blk_alloc ?_ _) | (first | with_reducible exact BK140.out))) (by first | (simp only [List.setIfInBounds_toArray, List.set_cons_zero, List.set_cons_succ] <;> rfl) | rfl) Tryd.underlying24 rfl (by kernel_rfl) ?_; (try simp only [Act.put, List.setIfInBounds_toArray, List.set_cons_zero, List.set_cons_succ])) | ((with_reducible refine gate_dst (N := 1) rfl ?_); refine box_event ?hg (N := 1) ?hd (cs := #[.int .i64 a0_0, .bool a0_1, .bool a0_2, .bool a0_3, .bool a0_4, .bool a0_5, .bool a0_6, .int .i64 a0_7, .int .u64 a0_8, .int .i64 a0_9, .int .u64 a0_10, .int .i64 a0_11, .int .i64 a0_12, .int .i64 a0_13, .int .i64 a0_14, .int .i64 a0_15]) (t := 24) ?hr ?_; (case hd => rfl); (case hg => rfl); (case hr => first | (go_simp; done) | (go_simp; rfl)); intro gb140 hg w37 hbox hb; have n0_ := Aside0.mk (below_step (by repeat (first | (with_reducible first | exact HB.out | apply below_alloc | apply pw_below_drewN | apply below_drew1) | exact HB.out)) hb); have n1_ := Aside0.mk (hbox); have n2_ := Aside0.mk ((by rw [hg]; exact (below_size (by repeat (first | (with_reducible first | exact HB.out | apply below_alloc | apply pw_below_drewN | apply below_drew1) | exact HB.out))) : w.heap.size ≤ gb140)); have n3_ := Aside0.mk ((by rw [hg]; exact (below_size (by repeat (first | (with_reducible first | exact HB.out | apply below_alloc | apply pw_below_drewN | apply below_drew1) | exact HB.out))) : w.heap.size ≤ gb140)); clear HB; have HB := n0_; have BK140 := n1_; have GW140 := n2_; have GE140 := n3_; clear n0_ n1_ n2_ n3_; clear hb hbox hg; obtain ⟨hcz38_0, hcz38_1, hcz38_2, hcz38_3, hcz38_4, hcz38_5, hcz38_6, hcz38_7, hcz38_8, hcz38_9, hcz38_10, hcz38_11, hcz38_12, hcz38_13, hcz38_14, hcz38_15⟩ := cells16 BK140.out; obtain ⟨hfz38_0, hfz38_1, hfz38_2, hfz38_3, hfz38_4, hfz38_5, hfz38_6, hfz38_7, hfz38_8, hfz38_9, hfz38_10, hfz38_11, hfz38_12, hfz38_13, hfz38_14, hfz38_15⟩ := frozen16 BK140.out) | ((with_reducible refine gate_callee (f := 12) rfl ?_); refine goesL_ (some 9) rfl rfl Tryd.func12 (by kernel_rfl) rfl #[.agg #[.int .i64 a0_0, .bool a0_1, .bool a0_2, .bool a0_3, .bool a0_4, .bool a0_5, .bool a0_6, .int .i64 a0_7, .int .u64 a0_8, .int .i64 a0_9, .int .u64 a0_10, .int .i64 a0_11, .int .i64 a0_12, .int .i64 a0_13, .int .i64 a0_14, .int .i64 a0_15]] rfl (by (try simp only [List.map_toArray, List.map_cons, List.map_nil]); first | done | rfl | (simp only [List.length_drop, List.length_take]; rfl)) ?_; (with_reducible refine (gangwayref09_Check.calls k a0_0 a0_1 a0_2 a0_3 a0_4 a0_5 a0_6 a0_7 a0_8 a0_9 a0_10 a0_11 a0_12 a0_13 a0_14 a0_15 t141 _ A2.out).mono ?_); rintro e w39 ⟨rfl, hb⟩; refine ⟨_, rfl, ?_⟩; have n0_ := Aside0.mk (blk_below (g := gb140) (by (with_reducible repeat (first | refine blk_drewN ?_ _ | refine blk_drew ?_ | refine blk_alloc ?_ _)); exact BK140.out) hb); have n1_ := Aside0.mk (below_step (by repeat (first | (with_reducible first | exact HB.out | apply below_alloc | apply pw_below_drewN | apply below_drew1 | refine below_set ?_ GE140.out) | exact HB.out)) hb); clear BK140; clear HB; have BK140 := n0_; have HB := n1_; clear n0_ n1_; (try clear hb); (try clear hb2); (try clear hk); (try clear hi); obtain ⟨hcz40_0, hcz40_1, hcz40_2, hcz40_3, hcz40_4, hcz40_5, hcz40_6, hcz40_7, hcz40_8, hcz40_9, hcz40_10, hcz40_11, hcz40_12, hcz40_13, hcz40_14, hcz40_15⟩ := cells16 BK140.out; obtain ⟨hfz40_0, hfz40_1, hfz40_2, hfz40_3, hfz40_4, hfz40_5, hfz40_6, hfz40_7, hfz40_8, hfz40_9, hfz40_10, hfz40_11, hfz40_12, hfz40_13, hfz40_14, hfz40_15⟩ := frozen16 BK140.out))
               refine start_ (n := 28) (S := fun w' => w'.cell? ⟨gb140, 0, none⟩ = some (.int .i64 a0_0) ∧ w'.cell? ⟨gb140, 1, none⟩ = some (.bool a0_1) ∧ w'.cell? ⟨gb140, 2, none⟩ = some (.bool a0_2) ∧ w'.cell? ⟨gb140, 3, none⟩ = some (.bool a0_3) ∧ w'.cell? ⟨gb140, 4, none⟩ = some (.bool a0_4) ∧ w'.cell? ⟨gb140, 5, none⟩ = some (.bool a0_5) ∧ w'.cell? ⟨gb140, 6, none⟩ = some (.bool a0_6) ∧ w'.cell? ⟨gb140, 7, none⟩ = some (.int .i64 a0_7) ∧ w'.cell? ⟨gb140, 8, none⟩ = some (.int .u64 a0_8) ∧ w'.cell? ⟨gb140, 9, none⟩ = some (.int .i64 a0_9) ∧ w'.cell? ⟨gb140, 10, none⟩ = some (.int .u64 a0_10) ∧ w'.cell? ⟨gb140, 11, none⟩ = some (.int .i64 a0_11) ∧ w'.cell? ⟨gb140, 12, none⟩ = some (.int .i64 a0_12) ∧ w'.cell? ⟨gb140, 13, none⟩ = some (.int .i64 a0_13) ∧ w'.cell? ⟨gb140, 14, none⟩ = some (.int .i64 a0_14) ∧ w'.cell? ⟨gb140, 15, none⟩ = some (.int .i64 a0_15)) (ds := []) #[false, false, false, false, false, false, false, false, false, false, false, false, false, false, false, false, false, false, false, false, false, false, false, false, false, false, false, false] (by kernel_rfl) rfl rfl ⟨(blk_cell BK140.out 0).trans rfl, (blk_cell BK140.out 1).trans rfl, (blk_cell BK140.out 2).trans rfl, (blk_cell BK140.out 3).trans rfl, (blk_cell BK140.out 4).trans rfl, (blk_cell BK140.out 5).trans rfl, (blk_cell BK140.out 6).trans rfl, (blk_cell BK140.out 7).trans rfl, (blk_cell BK140.out 8).trans rfl, (blk_cell BK140.out 9).trans rfl, (blk_cell BK140.out 10).trans rfl, (blk_cell BK140.out 11).trans rfl, (blk_cell BK140.out 12).trans rfl, (blk_cell BK140.out 13).trans rfl, (blk_cell BK140.out 14).trans rfl, (blk_cell BK140.out 15).trans rfl⟩ (fun hHeld => ?_); refine with_tabW gangwayref09_Build.tab7 gangwayref09_Build.bits7 (fun HT_ HW_ => ?_)
               generalize hq2_ : World.drew _ = w41 at hHeld ⊢
               have n0_ : Aside0 (w41.heap[gb140]? = some (.cells #[.int .i64 a0_0, .bool a0_1, .bool a0_2, .bool a0_3, .bool a0_4, .bool a0_5, .bool a0_6, .int .i64 a0_7, .int .u64 a0_8, .int .i64 a0_9, .int .u64 a0_10, .int .i64 a0_11, .int .i64 a0_12, .int .i64 a0_13, .int .i64 a0_14, .int .i64 a0_15] 24 (0, 0))) := ⟨by rw [← hq2_]; (with_reducible repeat (first | refine blk_drewN ?_ _ | refine blk_drew ?_ | refine blk_alloc ?_ _)); exact BK140.out⟩
               have n1_ : Aside0 (Below w.heap.size w w41) := ⟨by rw [← hq2_]; repeat (first | (with_reducible exact HB.out) | apply below_drew1 | apply pw_below_drewN | apply below_alloc)⟩
               clear BK140 HB hq2_
               have BK140 := n0_
               have HB := n1_
               clear n0_ n1_
               refine pure_ (i := 0) (N := some 18) (v := ?_) (a' := ?_) #[true, false, false, false, false, false, false, false, false, false, false, false, false, false, false, false, false, false, false, false, false, false, false, false, false, false, false, false] rfl rfl (any_of HT_.out (by kernel_rfl)) (fun _ _ _ h => h) (Or.inl ⟨by rfl, ?_⟩) ?_ ?_
               rotate_left
               ·intro w'
                go_simp
                with_reducible rfl
               rotate_left
               ·simp only [Act.put, List.setIfInBounds_toArray, List.set_cons_zero, List.set_cons_succ, i64_w, i32_w]
                rfl
               refine pure_ (i := 3) (N := some 21) (v := ?_) (a' := ?_) #[true, false, false, true, false, false, false, false, false, false, false, false, false, false, false, false, false, false, false, false, false, false, false, false, false, false, false, false] rfl rfl (any_of HT_.out (by kernel_rfl)) (fun _ _ _ h => h) (Or.inl ⟨by rfl, ?_⟩) ?_ ?_
               rotate_left
               ·intro w'
                go_simp
                with_reducible rfl
               rotate_left
               ·simp only [Act.put, List.setIfInBounds_toArray, List.set_cons_zero, List.set_cons_succ, i64_w, i32_w]
                rfl
               refine pure_ (i := 7) (N := some 25) (v := ?_) (a' := ?_) #[true, false, false, true, false, false, false, true, false, false, false, false, false, false, false, false, false, false, false, false, false, false, false, false, false, false, false, false] rfl rfl (any_of HT_.out (by kernel_rfl)) (fun _ _ _ h => h) (Or.inl ⟨by rfl, ?_⟩) ?_ ?_
               rotate_left
               ·intro w'
                go_simp
                with_reducible rfl
               rotate_left
               ·simp only [Act.put, List.setIfInBounds_toArray, List.set_cons_zero, List.set_cons_succ, i64_w, i32_w]
                rfl
               refine pure_ (i := 11) (N := some 29) (v := ?_) (a' := ?_) #[true, false, false, true, false, false, false, true, false, false, false, true, false, false, false, false, false, false, false, false, false, false, false, false, false, false, false, false] rfl rfl (any_of HT_.out (by kernel_rfl)) (fun _ _ _ h => h) (Or.inl ⟨by rfl, ?_⟩) ?_ ?_
               rotate_left
               ·intro w'
                go_simp
                with_reducible rfl
               rotate_left
               ·simp only [Act.put, List.setIfInBounds_toArray, List.set_cons_zero, List.set_cons_succ, i64_w, i32_w]
                rfl
               refine pure_ (i := 15) (N := some 33) (v := ?_) (a' := ?_) #[true, false, false, true, false, false, false, true, false, false, false, true, false, false, false, true, false, false, false, false, false, false, false, false, false, false, false, false] rfl rfl (any_of HT_.out (by kernel_rfl)) (fun _ _ _ h => h) (Or.inl ⟨by rfl, ?_⟩) ?_ ?_
               rotate_left
               ·intro w'
                go_simp
                with_reducible rfl
               rotate_left
               ·simp only [Act.put, List.setIfInBounds_toArray, List.set_cons_zero, List.set_cons_succ, i64_w, i32_w]
                rfl
               refine pure_ (i := 19) (N := some 37) (v := ?_) (a' := ?_) #[true, false, false, true, false, false, false, true, false, false, false, true, false, false, false, true, false, false, false, true, false, false, false, false, false, false, false, false] rfl rfl (any_of HT_.out (by kernel_rfl)) (fun _ _ _ h => h) (Or.inl ⟨by rfl, ?_⟩) ?_ ?_
               rotate_left
               ·intro w'
                go_simp
                with_reducible rfl
               rotate_left
               ·simp only [Act.put, List.setIfInBounds_toArray, List.set_cons_zero, List.set_cons_succ, i64_w, i32_w]
                rfl
               refine pure_ (i := 23) (N := some 41) (v := ?_) (a' := ?_) #[true, false, false, true, false, false, false, true, false, false, false, true, false, false, false, true, false, false, false, true, false, false, false, true, false, false, false, false] rfl rfl (any_of HT_.out (by kernel_rfl)) (fun _ _ _ h => h) (Or.inl ⟨by rfl, ?_⟩) ?_ ?_
               rotate_left
               ·intro w'
                go_simp
                with_reducible rfl
               rotate_left
               ·simp only [Act.put, List.setIfInBounds_toArray, List.set_cons_zero, List.set_cons_succ, i64_w, i32_w]
                rfl
               refine take_ (i := 1) (N := some 19) (v := ?_) (a' := ?_) #[true, true, false, true, false, false, false, true, false, false, false, true, false, false, false, true, false, false, false, true, false, false, false, true, false, false, false, false] rfl rfl (take_ofW HT_.out HW_.out (by kernel_rfl)) (fun _ _ _ h => h) (Or.inl ⟨by rfl, ?_⟩) hHeld ?_ ?_
               rotate_left
               ·rintro w' ⟨s0, s1, s2, s3, s4, s5, s6, s7, s8, s9, s10, s11, s12, s13, s14, s15⟩
                go_simp
                with_reducible rfl
               rotate_left
               ·simp only [Act.put, List.setIfInBounds_toArray, List.set_cons_zero, List.set_cons_succ, i64_w, i32_w]
                rfl
               refine take_ (i := 4) (N := some 22) (v := ?_) (a' := ?_) #[true, true, false, true, true, false, false, true, false, false, false, true, false, false, false, true, false, false, false, true, false, false, false, true, false, false, false, false] rfl rfl (take_ofW HT_.out HW_.out (by kernel_rfl)) (fun _ _ _ h => h) (Or.inl ⟨by rfl, ?_⟩) hHeld ?_ ?_
               rotate_left
               ·rintro w' ⟨s0, s1, s2, s3, s4, s5, s6, s7, s8, s9, s10, s11, s12, s13, s14, s15⟩
                go_simp
                with_reducible rfl
               rotate_left
               ·simp only [Act.put, List.setIfInBounds_toArray, List.set_cons_zero, List.set_cons_succ, i64_w, i32_w]
                rfl
               refine take_ (i := 8) (N := some 26) (v := ?_) (a' := ?_) #[true, true, false, true, true, false, false, true, true, false, false, true, false, false, false, true, false, false, false, true, false, false, false, true, false, false, false, false] rfl rfl (take_ofW HT_.out HW_.out (by kernel_rfl)) (fun _ _ _ h => h) (Or.inl ⟨by rfl, ?_⟩) hHeld ?_ ?_
               rotate_left
               ·rintro w' ⟨s0, s1, s2, s3, s4, s5, s6, s7, s8, s9, s10, s11, s12, s13, s14, s15⟩
                go_simp
                with_reducible rfl
               rotate_left
               ·simp only [Act.put, List.setIfInBounds_toArray, List.set_cons_zero, List.set_cons_succ, i64_w, i32_w]
                rfl
               refine pure_ (i := 9) (N := some 27) (v := ?_) (a' := ?_) #[true, true, false, true, true, false, false, true, true, true, false, true, false, false, false, true, false, false, false, true, false, false, false, true, false, false, false, false] rfl rfl (any_of HT_.out (by kernel_rfl)) (fun _ _ _ h => h) (Or.inl ⟨by rfl, ?_⟩) ?_ ?_
               rotate_left
               ·intro w'
                go_simp
                with_reducible rfl
               rotate_left
               ·simp only [Act.put, List.setIfInBounds_toArray, List.set_cons_zero, List.set_cons_succ, i64_w, i32_w]
                rfl
               refine take_ (i := 12) (N := some 30) (v := ?_) (a' := ?_) #[true, true, false, true, true, false, false, true, true, true, false, true, true, false, false, true, false, false, false, true, false, false, false, true, false, false, false, false] rfl rfl (take_ofW HT_.out HW_.out (by kernel_rfl)) (fun _ _ _ h => h) (Or.inl ⟨by rfl, ?_⟩) hHeld ?_ ?_
               rotate_left
               ·rintro w' ⟨s0, s1, s2, s3, s4, s5, s6, s7, s8, s9, s10, s11, s12, s13, s14, s15⟩
                go_simp
                with_reducible rfl
               rotate_left
               ·simp only [Act.put, List.setIfInBounds_toArray, List.set_cons_zero, List.set_cons_succ, i64_w, i32_w]
                rfl
               refine take_ (i := 16) (N := some 34) (v := ?_) (a' := ?_) #[true, true, false, true, true, false, false, true, true, true, false, true, true, false, false, true, true, false, false, true, false, false, false, true, false, false, false, false] rfl rfl (take_ofW HT_.out HW_.out (by kernel_rfl)) (fun _ _ _ h => h) (Or.inl ⟨by rfl, ?_⟩) hHeld ?_ ?_
               rotate_left
               ·rintro w' ⟨s0, s1, s2, s3, s4, s5, s6, s7, s8, s9, s10, s11, s12, s13, s14, s15⟩
                go_simp
                with_reducible rfl
               rotate_left
               ·simp only [Act.put, List.setIfInBounds_toArray, List.set_cons_zero, List.set_cons_succ, i64_w, i32_w]
                rfl
               refine take_ (i := 20) (N := some 38) (v := ?_) (a' := ?_) #[true, true, false, true, true, false, false, true, true, true, false, true, true, false, false, true, true, false, false, true, true, false, false, true, false, false, false, false] rfl rfl (take_ofW HT_.out HW_.out (by kernel_rfl)) (fun _ _ _ h => h) (Or.inl ⟨by rfl, ?_⟩) hHeld ?_ ?_
               rotate_left
               ·rintro w' ⟨s0, s1, s2, s3, s4, s5, s6, s7, s8, s9, s10, s11, s12, s13, s14, s15⟩
                go_simp
                with_reducible rfl
               rotate_left
               ·simp only [Act.put, List.setIfInBounds_toArray, List.set_cons_zero, List.set_cons_succ, i64_w, i32_w]
                rfl
               refine take_ (i := 24) (N := some 42) (v := ?_) (a' := ?_) #[true, true, false, true, true, false, false, true, true, true, false, true, true, false, false, true, true, false, false, true, true, false, false, true, true, false, false, false] rfl rfl (take_ofW HT_.out HW_.out (by kernel_rfl)) (fun _ _ _ h => h) (Or.inl ⟨by rfl, ?_⟩) hHeld ?_ ?_
               rotate_left
               ·rintro w' ⟨s0, s1, s2, s3, s4, s5, s6, s7, s8, s9, s10, s11, s12, s13, s14, s15⟩
                go_simp
                with_reducible rfl
               rotate_left
               ·simp only [Act.put, List.setIfInBounds_toArray, List.set_cons_zero, List.set_cons_succ, i64_w, i32_w]
                rfl
               refine one_ (i := 2) (N := some 20) #[true, true, true, true, true, false, false, true, true, true, false, true, true, false, false, true, true, false, false, true, true, false, false, true, true, false, false, false] rfl rfl (one_of HT_.out (by kernel_rfl)) (by decide) (fun K hK => ?_)
               refine goes_ Tryd.func21 (by kernel_rfl) rfl #[.bool a0_1, .int .i64 1] (by first | rfl | exact wanted_on rfl rfl rfl (by first | rfl | (simp [*]; done) | (simp [*, IntKind.wrap_u32]; done))) rfl rfl (by (try simp only [List.map_toArray, List.map_cons, List.map_nil]); first | done | rfl | (simp only [List.length_drop, List.length_take]; rfl)) ?_
               with_reducible refine (gangwayref09_bit.calls a0_1 1 t142 _ A10.out).mono ?_
               rintro e w' ⟨rfl, ⟨nd, rfl⟩⟩
               refine ⟨_, rfl, ?_⟩
               refine hK.out _ _ ⟨(blk_cell BK140.out 0).trans rfl, (blk_cell BK140.out 1).trans rfl, (blk_cell BK140.out 2).trans rfl, (blk_cell BK140.out 3).trans rfl, (blk_cell BK140.out 4).trans rfl, (blk_cell BK140.out 5).trans rfl, (blk_cell BK140.out 6).trans rfl, (blk_cell BK140.out 7).trans rfl, (blk_cell BK140.out 8).trans rfl, (blk_cell BK140.out 9).trans rfl, (blk_cell BK140.out 10).trans rfl, (blk_cell BK140.out 11).trans rfl, (blk_cell BK140.out 12).trans rfl, (blk_cell BK140.out 13).trans rfl, (blk_cell BK140.out 14).trans rfl, (blk_cell BK140.out 15).trans rfl⟩ (fun hHeld => ?_)
               clear hK K
               refine norm_ (a' := ?_) ?_ ?_
               rotate_left
               ·show Act.put _ (some 20) _ = _
                simp only [Act.put, List.setIfInBounds_toArray, List.set_cons_zero, List.set_cons_succ, i64_w, i32_w]
                rfl
               refine one_ (i := 5) (N := some 23) #[true, true, true, true, true, true, false, true, true, true, false, true, true, false, false, true, true, false, false, true, true, false, false, true, true, false, false, false] rfl rfl (one_of HT_.out (by kernel_rfl)) (by decide) (fun K hK => ?_)
               refine goes_ Tryd.func21 (by kernel_rfl) rfl #[.bool a0_2, .int .i64 2] (by first | rfl | exact wanted_on rfl rfl rfl (by first | rfl | (simp [*]; done) | (simp [*, IntKind.wrap_u32]; done))) rfl rfl (by (try simp only [List.map_toArray, List.map_cons, List.map_nil]); first | done | rfl | (simp only [List.length_drop, List.length_take]; rfl)) ?_
               with_reducible refine (gangwayref09_bit.calls a0_2 2 t143 _ A11.out).mono ?_
               rintro e w' ⟨rfl, ⟨nd, rfl⟩⟩
               refine ⟨_, rfl, ?_⟩
               refine hK.out _ _ ⟨(blk_cell BK140.out 0).trans rfl, (blk_cell BK140.out 1).trans rfl, (blk_cell BK140.out 2).trans rfl, (blk_cell BK140.out 3).trans rfl, (blk_cell BK140.out 4).trans rfl, (blk_cell BK140.out 5).trans rfl, (blk_cell BK140.out 6).trans rfl, (blk_cell BK140.out 7).trans rfl, (blk_cell BK140.out 8).trans rfl, (blk_cell BK140.out 9).trans rfl, (blk_cell BK140.out 10).trans rfl, (blk_cell BK140.out 11).trans rfl, (blk_cell BK140.out 12).trans rfl, (blk_cell BK140.out 13).trans rfl, (blk_cell BK140.out 14).trans rfl, (blk_cell BK140.out 15).trans rfl⟩ (fun hHeld => ?_)
               clear hK K
               refine norm_ (a' := ?_) ?_ ?_
               rotate_left
               ·show Act.put _ (some 23) _ = _
                simp only [Act.put, List.setIfInBounds_toArray, List.set_cons_zero, List.set_cons_succ, i64_w, i32_w]
                rfl
               refine pure_ (i := 6) (N := some 24) (v := ?_) (a' := ?_) #[true, true, true, true, true, true, true, true, true, true, false, true, true, false, false, true, true, false, false, true, true, false, false, true, true, false, false, false] rfl rfl (any_of HT_.out (by kernel_rfl)) (fun _ _ _ h => h) (Or.inl ⟨by rfl, ?_⟩) ?_ ?_
               rotate_left
               ·intro w'
                go_simp
                with_reducible rfl
               rotate_left
               ·simp only [Act.put, List.setIfInBounds_toArray, List.set_cons_zero, List.set_cons_succ, i64_w, i32_w]
                rfl
               refine pure_ (i := 10) (N := some 28) (v := ?_) (a' := ?_) #[true, true, true, true, true, true, true, true, true, true, true, true, true, false, false, true, true, false, false, true, true, false, false, true, true, false, false, false] rfl rfl (any_of HT_.out (by kernel_rfl)) (fun _ _ _ h => h) (Or.inl ⟨by rfl, ?_⟩) ?_ ?_
               rotate_left
               ·intro w'
                go_simp
                with_reducible rfl
               rotate_left
               ·simp only [Act.put, List.setIfInBounds_toArray, List.set_cons_zero, List.set_cons_succ, i64_w, i32_w]
                rfl
               refine one_ (i := 13) (N := some 31) #[true, true, true, true, true, true, true, true, true, true, true, true, true, true, false, true, true, false, false, true, true, false, false, true, true, false, false, false] rfl rfl (one_of HT_.out (by kernel_rfl)) (by decide) (fun K hK => ?_)
               refine goes_ Tryd.func21 (by kernel_rfl) rfl #[.bool a0_3, .int .i64 16] (by first | rfl | exact wanted_on rfl rfl rfl (by first | rfl | (simp [*]; done) | (simp [*, IntKind.wrap_u32]; done))) rfl rfl (by (try simp only [List.map_toArray, List.map_cons, List.map_nil]); first | done | rfl | (simp only [List.length_drop, List.length_take]; rfl)) ?_
               with_reducible refine (gangwayref09_bit.calls a0_3 16 t144 _ A12.out).mono ?_
               rintro e w' ⟨rfl, ⟨nd, rfl⟩⟩
               refine ⟨_, rfl, ?_⟩
               refine hK.out _ _ ⟨(blk_cell BK140.out 0).trans rfl, (blk_cell BK140.out 1).trans rfl, (blk_cell BK140.out 2).trans rfl, (blk_cell BK140.out 3).trans rfl, (blk_cell BK140.out 4).trans rfl, (blk_cell BK140.out 5).trans rfl, (blk_cell BK140.out 6).trans rfl, (blk_cell BK140.out 7).trans rfl, (blk_cell BK140.out 8).trans rfl, (blk_cell BK140.out 9).trans rfl, (blk_cell BK140.out 10).trans rfl, (blk_cell BK140.out 11).trans rfl, (blk_cell BK140.out 12).trans rfl, (blk_cell BK140.out 13).trans rfl, (blk_cell BK140.out 14).trans rfl, (blk_cell BK140.out 15).trans rfl⟩ (fun hHeld => ?_)
               clear hK K
               refine norm_ (a' := ?_) ?_ ?_
               rotate_left
               ·show Act.put _ (some 31) _ = _
                simp only [Act.put, List.setIfInBounds_toArray, List.set_cons_zero, List.set_cons_succ, i64_w, i32_w]
                rfl
               refine pure_ (i := 14) (N := some 32) (v := ?_) (a' := ?_) #[true, true, true, true, true, true, true, true, true, true, true, true, true, true, true, true, true, false, false, true, true, false, false, true, true, false, false, false] rfl rfl (any_of HT_.out (by kernel_rfl)) (fun _ _ _ h => h) (Or.inl ⟨by rfl, ?_⟩) ?_ ?_
               rotate_left
               ·intro w'
                go_simp
                with_reducible rfl
               rotate_left
               ·simp only [Act.put, List.setIfInBounds_toArray, List.set_cons_zero, List.set_cons_succ, i64_w, i32_w]
                rfl
               refine one_ (i := 17) (N := some 35) #[true, true, true, true, true, true, true, true, true, true, true, true, true, true, true, true, true, true, false, true, true, false, false, true, true, false, false, false] rfl rfl (one_of HT_.out (by kernel_rfl)) (by decide) (fun K hK => ?_)
               refine goes_ Tryd.func21 (by kernel_rfl) rfl #[.bool a0_4, .int .i64 32] (by first | rfl | exact wanted_on rfl rfl rfl (by first | rfl | (simp [*]; done) | (simp [*, IntKind.wrap_u32]; done))) rfl rfl (by (try simp only [List.map_toArray, List.map_cons, List.map_nil]); first | done | rfl | (simp only [List.length_drop, List.length_take]; rfl)) ?_
               with_reducible refine (gangwayref09_bit.calls a0_4 32 t145 _ A13.out).mono ?_
               rintro e w' ⟨rfl, ⟨nd, rfl⟩⟩
               refine ⟨_, rfl, ?_⟩
               refine hK.out _ _ ⟨(blk_cell BK140.out 0).trans rfl, (blk_cell BK140.out 1).trans rfl, (blk_cell BK140.out 2).trans rfl, (blk_cell BK140.out 3).trans rfl, (blk_cell BK140.out 4).trans rfl, (blk_cell BK140.out 5).trans rfl, (blk_cell BK140.out 6).trans rfl, (blk_cell BK140.out 7).trans rfl, (blk_cell BK140.out 8).trans rfl, (blk_cell BK140.out 9).trans rfl, (blk_cell BK140.out 10).trans rfl, (blk_cell BK140.out 11).trans rfl, (blk_cell BK140.out 12).trans rfl, (blk_cell BK140.out 13).trans rfl, (blk_cell BK140.out 14).trans rfl, (blk_cell BK140.out 15).trans rfl⟩ (fun hHeld => ?_)
               clear hK K
               refine norm_ (a' := ?_) ?_ ?_
               rotate_left
               ·show Act.put _ (some 35) _ = _
                simp only [Act.put, List.setIfInBounds_toArray, List.set_cons_zero, List.set_cons_succ, i64_w, i32_w]
                rfl
               refine pure_ (i := 18) (N := some 36) (v := ?_) (a' := ?_) #[true, true, true, true, true, true, true, true, true, true, true, true, true, true, true, true, true, true, true, true, true, false, false, true, true, false, false, false] rfl rfl (any_of HT_.out (by kernel_rfl)) (fun _ _ _ h => h) (Or.inl ⟨by rfl, ?_⟩) ?_ ?_
               rotate_left
               ·intro w'
                go_simp
                with_reducible rfl
               rotate_left
               ·simp only [Act.put, List.setIfInBounds_toArray, List.set_cons_zero, List.set_cons_succ, i64_w, i32_w]
                rfl
               refine one_ (i := 21) (N := some 39) #[true, true, true, true, true, true, true, true, true, true, true, true, true, true, true, true, true, true, true, true, true, true, false, true, true, false, false, false] rfl rfl (one_of HT_.out (by kernel_rfl)) (by decide) (fun K hK => ?_)
               refine goes_ Tryd.func21 (by kernel_rfl) rfl #[.bool a0_5, .int .i64 64] (by first | rfl | exact wanted_on rfl rfl rfl (by first | rfl | (simp [*]; done) | (simp [*, IntKind.wrap_u32]; done))) rfl rfl (by (try simp only [List.map_toArray, List.map_cons, List.map_nil]); first | done | rfl | (simp only [List.length_drop, List.length_take]; rfl)) ?_
               with_reducible refine (gangwayref09_bit.calls a0_5 64 t146 _ A14.out).mono ?_
               rintro e w' ⟨rfl, ⟨nd, rfl⟩⟩
               refine ⟨_, rfl, ?_⟩
               refine hK.out _ _ ⟨(blk_cell BK140.out 0).trans rfl, (blk_cell BK140.out 1).trans rfl, (blk_cell BK140.out 2).trans rfl, (blk_cell BK140.out 3).trans rfl, (blk_cell BK140.out 4).trans rfl, (blk_cell BK140.out 5).trans rfl, (blk_cell BK140.out 6).trans rfl, (blk_cell BK140.out 7).trans rfl, (blk_cell BK140.out 8).trans rfl, (blk_cell BK140.out 9).trans rfl, (blk_cell BK140.out 10).trans rfl, (blk_cell BK140.out 11).trans rfl, (blk_cell BK140.out 12).trans rfl, (blk_cell BK140.out 13).trans rfl, (blk_cell BK140.out 14).trans rfl, (blk_cell BK140.out 15).trans rfl⟩ (fun hHeld => ?_)
               clear hK K
               refine norm_ (a' := ?_) ?_ ?_
               rotate_left
               ·show Act.put _ (some 39) _ = _
                simp only [Act.put, List.setIfInBounds_toArray, List.set_cons_zero, List.set_cons_succ, i64_w, i32_w]
                rfl
               refine pure_ (i := 22) (N := some 40) (v := ?_) (a' := ?_) #[true, true, true, true, true, true, true, true, true, true, true, true, true, true, true, true, true, true, true, true, true, true, true, true, true, false, false, false] rfl rfl (any_of HT_.out (by kernel_rfl)) (fun _ _ _ h => h) (Or.inl ⟨by rfl, ?_⟩) ?_ ?_
               rotate_left
               ·intro w'
                go_simp
                with_reducible rfl
               rotate_left
               ·simp only [Act.put, List.setIfInBounds_toArray, List.set_cons_zero, List.set_cons_succ, i64_w, i32_w]
                rfl
               refine one_ (i := 25) (N := some 43) #[true, true, true, true, true, true, true, true, true, true, true, true, true, true, true, true, true, true, true, true, true, true, true, true, true, true, false, false] rfl rfl (one_of HT_.out (by kernel_rfl)) (by decide) (fun K hK => ?_)
               refine goes_ Tryd.func21 (by kernel_rfl) rfl #[.bool a0_6, .int .i64 128] (by first | rfl | exact wanted_on rfl rfl rfl (by first | rfl | (simp [*]; done) | (simp [*, IntKind.wrap_u32]; done))) rfl rfl (by (try simp only [List.map_toArray, List.map_cons, List.map_nil]); first | done | rfl | (simp only [List.length_drop, List.length_take]; rfl)) ?_
               with_reducible refine (gangwayref09_bit.calls a0_6 128 t147 _ A15.out).mono ?_
               rintro e w' ⟨rfl, ⟨nd, rfl⟩⟩
               refine ⟨_, rfl, ?_⟩
               refine hK.out _ _ ⟨(blk_cell BK140.out 0).trans rfl, (blk_cell BK140.out 1).trans rfl, (blk_cell BK140.out 2).trans rfl, (blk_cell BK140.out 3).trans rfl, (blk_cell BK140.out 4).trans rfl, (blk_cell BK140.out 5).trans rfl, (blk_cell BK140.out 6).trans rfl, (blk_cell BK140.out 7).trans rfl, (blk_cell BK140.out 8).trans rfl, (blk_cell BK140.out 9).trans rfl, (blk_cell BK140.out 10).trans rfl, (blk_cell BK140.out 11).trans rfl, (blk_cell BK140.out 12).trans rfl, (blk_cell BK140.out 13).trans rfl, (blk_cell BK140.out 14).trans rfl, (blk_cell BK140.out 15).trans rfl⟩ (fun hHeld => ?_)
               clear hK K
               refine norm_ (a' := ?_) ?_ ?_
               rotate_left
               ·show Act.put _ (some 43) _ = _
                simp only [Act.put, List.setIfInBounds_toArray, List.set_cons_zero, List.set_cons_succ, i64_w, i32_w]
                rfl
               refine pure_ (i := 26) (N := some 44) (v := ?_) (a' := ?_) #[true, true, true, true, true, true, true, true, true, true, true, true, true, true, true, true, true, true, true, true, true, true, true, true, true, true, true, false] rfl rfl (any_of HT_.out (by kernel_rfl)) (fun _ _ _ h => h) (Or.inl ⟨by rfl, ?_⟩) ?_ ?_
               rotate_left
               ·intro w'
                go_simp
                with_reducible rfl
               rotate_left
               ·simp only [Act.put, List.setIfInBounds_toArray, List.set_cons_zero, List.set_cons_succ, i64_w, i32_w]
                rfl
               refine pure_ (i := 27) (N := some 6) (v := ?_) (a' := ?_) #[true, true, true, true, true, true, true, true, true, true, true, true, true, true, true, true, true, true, true, true, true, true, true, true, true, true, true, true] rfl rfl (any_of HT_.out (by kernel_rfl)) (fun _ _ _ h => h) (Or.inl ⟨by rfl, ?_⟩) ?_ ?_
               rotate_left
               ·intro w'
                go_simp
                with_reducible rfl
               rotate_left
               ·simp only [Act.put, List.setIfInBounds_toArray, List.set_cons_zero, List.set_cons_succ, i64_w, i32_w]
                rfl
               refine done_ (done_of HT_.out (by kernel_rfl)) ?_
               try go_wp2_with (first | ((with_reducible refine gate_st (ty := 24) rfl ?_); (try (with_reducible refine gate_gd rfl ?_; refine gate_guard (by first | rfl | exact wanted_on rfl rfl rfl (by first | rfl | (simp [*]; done))) ?_; dsimp only)); refine storeC16 rfl rfl rfl rfl rfl (by repeat (first | (with_reducible apply blk_far; case hp => assumption) | (with_reducible apply blk_set) | (with_reducible refine blk_drewN ?_ _) | (with_reducible refine blk_drew ?_) | (with_reducible refine blk_alloc ?_ _) | (first | with_reducible exact BK140.out))) (by first | (simp only [List.setIfInBounds_toArray, List.set_cons_zero, List.set_cons_succ] <;> rfl) | rfl) (by kernel_rfl) rfl ?_) | ((with_reducible refine gate_ld (ty := 24) rfl ?_); (try (with_reducible refine gate_gd rfl ?_; refine gate_guard (by first | rfl | exact wanted_on rfl rfl rfl (by first | rfl | (simp [*]; done))) ?_; dsimp only)); refine load_st rfl rfl rfl (by repeat (first | (with_reducible apply blk_far; case hp => assumption) | (with_reducible apply blk_set) | (with_reducible refine blk_drewN ?_ _) | (with_reducible refine blk_drew ?_) | (with_reducible refine blk_alloc ?_ _) | (first | with_reducible exact BK140.out))) (by first | (simp only [List.setIfInBounds_toArray, List.set_cons_zero, List.set_cons_succ] <;> rfl) | rfl) Tryd.underlying24 rfl (by kernel_rfl) ?_; (try simp only [Act.put, List.setIfInBounds_toArray, List.set_cons_zero, List.set_cons_succ])) | go_in)
               (try (rw [drewN_self w41]; generalize hq_ : World.drewN w41 _ = w41; have n0_ : Aside0 (w41.heap[gb140]? = some (.cells #[.int .i64 a0_0, .bool a0_1, .bool a0_2, .bool a0_3, .bool a0_4, .bool a0_5, .bool a0_6, .int .i64 a0_7, .int .u64 a0_8, .int .i64 a0_9, .int .u64 a0_10, .int .i64 a0_11, .int .i64 a0_12, .int .i64 a0_13, .int .i64 a0_14, .int .i64 a0_15] 24 (0, 0))) := ⟨by rw [← hq_]; exact (by (with_reducible repeat (first | refine blk_drewN ?_ _ | refine blk_drew ?_ | refine blk_alloc ?_ _)); exact BK140.out)⟩; have n1_ : Aside0 (Below w.heap.size w w41) := ⟨by rw [← hq_]; exact (by repeat (first | (with_reducible first | exact HB.out | apply below_alloc | apply pw_below_drewN | apply below_drew1 | refine below_set ?_ GE140.out) | exact HB.out))⟩; clear BK140 HB hq_; have BK140 := n0_; have HB := n1_; clear n0_ n1_))
               refine start_ (n := 42) (S := fun w' => w'.cell? ⟨gb140, 0, none⟩ = some (.int .i64 a0_0) ∧ w'.cell? ⟨gb140, 1, none⟩ = some (.bool a0_1) ∧ w'.cell? ⟨gb140, 2, none⟩ = some (.bool a0_2) ∧ w'.cell? ⟨gb140, 3, none⟩ = some (.bool a0_3) ∧ w'.cell? ⟨gb140, 4, none⟩ = some (.bool a0_4) ∧ w'.cell? ⟨gb140, 5, none⟩ = some (.bool a0_5) ∧ w'.cell? ⟨gb140, 6, none⟩ = some (.bool a0_6) ∧ w'.cell? ⟨gb140, 7, none⟩ = some (.int .i64 a0_7) ∧ w'.cell? ⟨gb140, 8, none⟩ = some (.int .u64 a0_8) ∧ w'.cell? ⟨gb140, 9, none⟩ = some (.int .i64 a0_9) ∧ w'.cell? ⟨gb140, 10, none⟩ = some (.int .u64 a0_10) ∧ w'.cell? ⟨gb140, 11, none⟩ = some (.int .i64 a0_11) ∧ w'.cell? ⟨gb140, 12, none⟩ = some (.int .i64 a0_12) ∧ w'.cell? ⟨gb140, 13, none⟩ = some (.int .i64 a0_13) ∧ w'.cell? ⟨gb140, 14, none⟩ = some (.int .i64 a0_14) ∧ w'.cell? ⟨gb140, 15, none⟩ = some (.int .i64 a0_15)) (ds := []) #[false, false, false, false, false, false, false, false, false, false, false, false, false, false, false, false, false, false, false, false, false, false, false, false, false, false, false, false, false, false, false, false, false, false, false, false, false, false, false, false, false, false] (by kernel_rfl) rfl rfl ⟨(blk_cell BK140.out 0).trans rfl, (blk_cell BK140.out 1).trans rfl, (blk_cell BK140.out 2).trans rfl, (blk_cell BK140.out 3).trans rfl, (blk_cell BK140.out 4).trans rfl, (blk_cell BK140.out 5).trans rfl, (blk_cell BK140.out 6).trans rfl, (blk_cell BK140.out 7).trans rfl, (blk_cell BK140.out 8).trans rfl, (blk_cell BK140.out 9).trans rfl, (blk_cell BK140.out 10).trans rfl, (blk_cell BK140.out 11).trans rfl, (blk_cell BK140.out 12).trans rfl, (blk_cell BK140.out 13).trans rfl, (blk_cell BK140.out 14).trans rfl, (blk_cell BK140.out 15).trans rfl⟩ (fun hHeld => ?_); refine with_tabW gangwayref09_Build.tab8 gangwayref09_Build.bits8 (fun HT_ HW_ => ?_)
               generalize hq2_ : World.drew _ = w42 at hHeld ⊢
               have n0_ : Aside0 (w42.heap[gb140]? = some (.cells #[.int .i64 a0_0, .bool a0_1, .bool a0_2, .bool a0_3, .bool a0_4, .bool a0_5, .bool a0_6, .int .i64 a0_7, .int .u64 a0_8, .int .i64 a0_9, .int .u64 a0_10, .int .i64 a0_11, .int .i64 a0_12, .int .i64 a0_13, .int .i64 a0_14, .int .i64 a0_15] 24 (0, 0))) := ⟨by rw [← hq2_]; (with_reducible repeat (first | refine blk_drewN ?_ _ | refine blk_drew ?_ | refine blk_alloc ?_ _)); exact BK140.out⟩
               have n1_ : Aside0 (Below w.heap.size w w42) := ⟨by rw [← hq2_]; repeat (first | (with_reducible exact HB.out) | apply below_drew1 | apply pw_below_drewN | apply below_alloc)⟩
               clear BK140 HB hq2_
               have BK140 := n0_
               have HB := n1_
               clear n0_ n1_
               refine pure_ (i := 0) (N := some 45) (v := ?_) (a' := ?_) #[true, false, false, false, false, false, false, false, false, false, false, false, false, false, false, false, false, false, false, false, false, false, false, false, false, false, false, false, false, false, false, false, false, false, false, false, false, false, false, false, false, false] rfl rfl (any_of HT_.out (by kernel_rfl)) (fun _ _ _ h => h) (Or.inl ⟨by rfl, ?_⟩) ?_ ?_
               rotate_left
               ·intro w'
                go_simp
                with_reducible rfl
               rotate_left
               ·simp only [Act.put, List.setIfInBounds_toArray, List.set_cons_zero, List.set_cons_succ, i64_w, i32_w]
                rfl
               refine pure_ (i := 1) (N := some 46) (v := ?_) (a' := ?_) #[true, true, false, false, false, false, false, false, false, false, false, false, false, false, false, false, false, false, false, false, false, false, false, false, false, false, false, false, false, false, false, false, false, false, false, false, false, false, false, false, false, false] rfl rfl (any_of HT_.out (by kernel_rfl)) (fun _ _ _ h => h) (Or.inl ⟨by rfl, ?_⟩) ?_ ?_
               rotate_left
               ·intro w'
                go_simp
                with_reducible rfl
               rotate_left
               ·simp only [Act.put, List.setIfInBounds_toArray, List.set_cons_zero, List.set_cons_succ, i64_w, i32_w]
                rfl
               refine pure_ (i := 3) (N := some 48) (v := ?_) (a' := ?_) #[true, true, false, true, false, false, false, false, false, false, false, false, false, false, false, false, false, false, false, false, false, false, false, false, false, false, false, false, false, false, false, false, false, false, false, false, false, false, false, false, false, false] rfl rfl (any_of HT_.out (by kernel_rfl)) (fun _ _ _ h => h) (Or.inl ⟨by rfl, ?_⟩) ?_ ?_
               rotate_left
               ·intro w'
                go_simp
                with_reducible rfl
               rotate_left
               ·simp only [Act.put, List.setIfInBounds_toArray, List.set_cons_zero, List.set_cons_succ, i64_w, i32_w]
                rfl
               refine pure_ (i := 7) (N := some 52) (v := ?_) (a' := ?_) #[true, true, false, true, false, false, false, true, false, false, false, false, false, false, false, false, false, false, false, false, false, false, false, false, false, false, false, false, false, false, false, false, false, false, false, false, false, false, false, false, false, false] rfl rfl (any_of HT_.out (by kernel_rfl)) (fun _ _ _ h => h) (Or.inl ⟨by rfl, ?_⟩) ?_ ?_
               rotate_left
               ·intro w'
                go_simp
                with_reducible rfl
               rotate_left
               ·simp only [Act.put, List.setIfInBounds_toArray, List.set_cons_zero, List.set_cons_succ, i64_w, i32_w]
                rfl
               refine pure_ (i := 12) (N := some 57) (v := ?_) (a' := ?_) #[true, true, false, true, false, false, false, true, false, false, false, false, true, false, false, false, false, false, false, false, false, false, false, false, false, false, false, false, false, false, false, false, false, false, false, false, false, false, false, false, false, false] rfl rfl (any_of HT_.out (by kernel_rfl)) (fun _ _ _ h => h) (Or.inl ⟨by rfl, ?_⟩) ?_ ?_
               rotate_left
               ·intro w'
                go_simp
                with_reducible rfl
               rotate_left
               ·simp only [Act.put, List.setIfInBounds_toArray, List.set_cons_zero, List.set_cons_succ, i64_w, i32_w]
                rfl
               refine pure_ (i := 16) (N := some 61) (v := ?_) (a' := ?_) #[true, true, false, true, false, false, false, true, false, false, false, false, true, false, false, false, true, false, false, false, false, false, false, false, false, false, false, false, false, false, false, false, false, false, false, false, false, false, false, false, false, false] rfl rfl (any_of HT_.out (by kernel_rfl)) (fun _ _ _ h => h) (Or.inl ⟨by rfl, ?_⟩) ?_ ?_
               rotate_left
               ·intro w'
                go_simp
                with_reducible rfl
               rotate_left
               ·simp only [Act.put, List.setIfInBounds_toArray, List.set_cons_zero, List.set_cons_succ, i64_w, i32_w]
                rfl
               refine pure_ (i := 21) (N := some 66) (v := ?_) (a' := ?_) #[true, true, false, true, false, false, false, true, false, false, false, false, true, false, false, false, true, false, false, false, false, true, false, false, false, false, false, false, false, false, false, false, false, false, false, false, false, false, false, false, false, false] rfl rfl (any_of HT_.out (by kernel_rfl)) (fun _ _ _ h => h) (Or.inl ⟨by rfl, ?_⟩) ?_ ?_
               rotate_left
               ·intro w'
                go_simp
                with_reducible rfl
               rotate_left
               ·simp only [Act.put, List.setIfInBounds_toArray, List.set_cons_zero, List.set_cons_succ, i64_w, i32_w]
                rfl
               refine pure_ (i := 26) (N := some 71) (v := ?_) (a' := ?_) #[true, true, false, true, false, false, false, true, false, false, false, false, true, false, false, false, true, false, false, false, false, true, false, false, false, false, true, false, false, false, false, false, false, false, false, false, false, false, false, false, false, false] rfl rfl (any_of HT_.out (by kernel_rfl)) (fun _ _ _ h => h) (Or.inl ⟨by rfl, ?_⟩) ?_ ?_
               rotate_left
               ·intro w'
                go_simp
                with_reducible rfl
               rotate_left
               ·simp only [Act.put, List.setIfInBounds_toArray, List.set_cons_zero, List.set_cons_succ, i64_w, i32_w]
                rfl
               refine pure_ (i := 31) (N := some 76) (v := ?_) (a' := ?_) #[true, true, false, true, false, false, false, true, false, false, false, false, true, false, false, false, true, false, false, false, false, true, false, false, false, false, true, false, false, false, false, true, false, false, false, false, false, false, false, false, false, false] rfl rfl (any_of HT_.out (by kernel_rfl)) (fun _ _ _ h => h) (Or.inl ⟨by rfl, ?_⟩) ?_ ?_
               rotate_left
               ·intro w'
                go_simp
                with_reducible rfl
               rotate_left
               ·simp only [Act.put, List.setIfInBounds_toArray, List.set_cons_zero, List.set_cons_succ, i64_w, i32_w]
                rfl
               refine pure_ (i := 36) (N := some 81) (v := ?_) (a' := ?_) #[true, true, false, true, false, false, false, true, false, false, false, false, true, false, false, false, true, false, false, false, false, true, false, false, false, false, true, false, false, false, false, true, false, false, false, false, true, false, false, false, false, false] rfl rfl (any_of HT_.out (by kernel_rfl)) (fun _ _ _ h => h) (Or.inl ⟨by rfl, ?_⟩) ?_ ?_
               rotate_left
               ·intro w'
                go_simp
                with_reducible rfl
               rotate_left
               ·simp only [Act.put, List.setIfInBounds_toArray, List.set_cons_zero, List.set_cons_succ, i64_w, i32_w]
                rfl
               refine take_ (i := 4) (N := some 49) (v := ?_) (a' := ?_) #[true, true, false, true, true, false, false, true, false, false, false, false, true, false, false, false, true, false, false, false, false, true, false, false, false, false, true, false, false, false, false, true, false, false, false, false, true, false, false, false, false, false] rfl rfl (take_ofW HT_.out HW_.out (by kernel_rfl)) (fun _ _ _ h => h) (Or.inl ⟨by rfl, ?_⟩) hHeld ?_ ?_
               rotate_left
               ·rintro w' ⟨s0, s1, s2, s3, s4, s5, s6, s7, s8, s9, s10, s11, s12, s13, s14, s15⟩
                go_simp
                with_reducible rfl
               rotate_left
               ·simp only [Act.put, List.setIfInBounds_toArray, List.set_cons_zero, List.set_cons_succ, i64_w, i32_w]
                rfl
               refine take_ (i := 8) (N := some 53) (v := ?_) (a' := ?_) #[true, true, false, true, true, false, false, true, true, false, false, false, true, false, false, false, true, false, false, false, false, true, false, false, false, false, true, false, false, false, false, true, false, false, false, false, true, false, false, false, false, false] rfl rfl (take_ofW HT_.out HW_.out (by kernel_rfl)) (fun _ _ _ h => h) (Or.inl ⟨by rfl, ?_⟩) hHeld ?_ ?_
               rotate_left
               ·rintro w' ⟨s0, s1, s2, s3, s4, s5, s6, s7, s8, s9, s10, s11, s12, s13, s14, s15⟩
                go_simp
                with_reducible rfl
               rotate_left
               ·simp only [Act.put, List.setIfInBounds_toArray, List.set_cons_zero, List.set_cons_succ, i64_w, i32_w]
                rfl
               refine pure_ (i := 9) (N := some 54) (v := ?_) (a' := ?_) #[true, true, false, true, true, false, false, true, true, true, false, false, true, false, false, false, true, false, false, false, false, true, false, false, false, false, true, false, false, false, false, true, false, false, false, false, true, false, false, false, false, false] rfl rfl (any_of HT_.out (by kernel_rfl)) (fun _ _ _ h => h) (Or.inl ⟨by rfl, ?_⟩) ?_ ?_
               rotate_left
               ·intro w'
                go_simp
                with_reducible rfl
               rotate_left
               ·simp only [Act.put, List.setIfInBounds_toArray, List.set_cons_zero, List.set_cons_succ, i64_w, i32_w]
                rfl
               refine take_ (i := 13) (N := some 58) (v := ?_) (a' := ?_) #[true, true, false, true, true, false, false, true, true, true, false, false, true, true, false, false, true, false, false, false, false, true, false, false, false, false, true, false, false, false, false, true, false, false, false, false, true, false, false, false, false, false] rfl rfl (take_ofW HT_.out HW_.out (by kernel_rfl)) (fun _ _ _ h => h) (Or.inl ⟨by rfl, ?_⟩) hHeld ?_ ?_
               rotate_left
               ·rintro w' ⟨s0, s1, s2, s3, s4, s5, s6, s7, s8, s9, s10, s11, s12, s13, s14, s15⟩
                go_simp
                with_reducible rfl
               rotate_left
               ·simp only [Act.put, List.setIfInBounds_toArray, List.set_cons_zero, List.set_cons_succ, i64_w, i32_w]
                rfl
               refine take_ (i := 17) (N := some 62) (v := ?_) (a' := ?_) #[true, true, false, true, true, false, false, true, true, true, false, false, true, true, false, false, true, true, false, false, false, true, false, false, false, false, true, false, false, false, false, true, false, false, false, false, true, false, false, false, false, false] rfl rfl (take_ofW HT_.out HW_.out (by kernel_rfl)) (fun _ _ _ h => h) (Or.inl ⟨by rfl, ?_⟩) hHeld ?_ ?_
               rotate_left
               ·rintro w' ⟨s0, s1, s2, s3, s4, s5, s6, s7, s8, s9, s10, s11, s12, s13, s14, s15⟩
                go_simp
                with_reducible rfl
               rotate_left
               ·simp only [Act.put, List.setIfInBounds_toArray, List.set_cons_zero, List.set_cons_succ, i64_w, i32_w]
                rfl
               refine pure_ (i := 18) (N := some 63) (v := ?_) (a' := ?_) #[true, true, false, true, true, false, false, true, true, true, false, false, true, true, false, false, true, true, true, false, false, true, false, false, false, false, true, false, false, false, false, true, false, false, false, false, true, false, false, false, false, false] rfl rfl (any_of HT_.out (by kernel_rfl)) (fun _ _ _ h => h) (Or.inl ⟨by rfl, ?_⟩) ?_ ?_
               rotate_left
               ·intro w'
                go_simp
                with_reducible rfl
               rotate_left
               ·simp only [Act.put, List.setIfInBounds_toArray, List.set_cons_zero, List.set_cons_succ, i64_w, i32_w]
                rfl
               refine take_ (i := 22) (N := some 67) (v := ?_) (a' := ?_) #[true, true, false, true, true, false, false, true, true, true, false, false, true, true, false, false, true, true, true, false, false, true, true, false, false, false, true, false, false, false, false, true, false, false, false, false, true, false, false, false, false, false] rfl rfl (take_ofW HT_.out HW_.out (by kernel_rfl)) (fun _ _ _ h => h) (Or.inl ⟨by rfl, ?_⟩) hHeld ?_ ?_
               rotate_left
               ·rintro w' ⟨s0, s1, s2, s3, s4, s5, s6, s7, s8, s9, s10, s11, s12, s13, s14, s15⟩
                go_simp
                with_reducible rfl
               rotate_left
               ·simp only [Act.put, List.setIfInBounds_toArray, List.set_cons_zero, List.set_cons_succ, i64_w, i32_w]
                rfl
               refine pure_ (i := 23) (N := some 68) (v := ?_) (a' := ?_) #[true, true, false, true, true, false, false, true, true, true, false, false, true, true, false, false, true, true, true, false, false, true, true, true, false, false, true, false, false, false, false, true, false, false, false, false, true, false, false, false, false, false] rfl rfl (any_of HT_.out (by kernel_rfl)) (fun _ _ _ h => h) (Or.inl ⟨by rfl, ?_⟩) ?_ ?_
               rotate_left
               ·intro w'
                go_simp
                with_reducible rfl
               rotate_left
               ·simp only [Act.put, List.setIfInBounds_toArray, List.set_cons_zero, List.set_cons_succ, i64_w, i32_w]
                rfl
               refine take_ (i := 27) (N := some 72) (v := ?_) (a' := ?_) #[true, true, false, true, true, false, false, true, true, true, false, false, true, true, false, false, true, true, true, false, false, true, true, true, false, false, true, true, false, false, false, true, false, false, false, false, true, false, false, false, false, false] rfl rfl (take_ofW HT_.out HW_.out (by kernel_rfl)) (fun _ _ _ h => h) (Or.inl ⟨by rfl, ?_⟩) hHeld ?_ ?_
               rotate_left
               ·rintro w' ⟨s0, s1, s2, s3, s4, s5, s6, s7, s8, s9, s10, s11, s12, s13, s14, s15⟩
                go_simp
                with_reducible rfl
               rotate_left
               ·simp only [Act.put, List.setIfInBounds_toArray, List.set_cons_zero, List.set_cons_succ, i64_w, i32_w]
                rfl
               refine pure_ (i := 28) (N := some 73) (v := ?_) (a' := ?_) #[true, true, false, true, true, false, false, true, true, true, false, false, true, true, false, false, true, true, true, false, false, true, true, true, false, false, true, true, true, false, false, true, false, false, false, false, true, false, false, false, false, false] rfl rfl (any_of HT_.out (by kernel_rfl)) (fun _ _ _ h => h) (Or.inl ⟨by rfl, ?_⟩) ?_ ?_
               rotate_left
               ·intro w'
                go_simp
                with_reducible rfl
               rotate_left
               ·simp only [Act.put, List.setIfInBounds_toArray, List.set_cons_zero, List.set_cons_succ, i64_w, i32_w]
                rfl
               refine take_ (i := 32) (N := some 77) (v := ?_) (a' := ?_) #[true, true, false, true, true, false, false, true, true, true, false, false, true, true, false, false, true, true, true, false, false, true, true, true, false, false, true, true, true, false, false, true, true, false, false, false, true, false, false, false, false, false] rfl rfl (take_ofW HT_.out HW_.out (by kernel_rfl)) (fun _ _ _ h => h) (Or.inl ⟨by rfl, ?_⟩) hHeld ?_ ?_
               rotate_left
               ·rintro w' ⟨s0, s1, s2, s3, s4, s5, s6, s7, s8, s9, s10, s11, s12, s13, s14, s15⟩
                go_simp
                with_reducible rfl
               rotate_left
               ·simp only [Act.put, List.setIfInBounds_toArray, List.set_cons_zero, List.set_cons_succ, i64_w, i32_w]
                rfl
               refine pure_ (i := 33) (N := some 78) (v := ?_) (a' := ?_) #[true, true, false, true, true, false, false, true, true, true, false, false, true, true, false, false, true, true, true, false, false, true, true, true, false, false, true, true, true, false, false, true, true, true, false, false, true, false, false, false, false, false] rfl rfl (any_of HT_.out (by kernel_rfl)) (fun _ _ _ h => h) (Or.inl ⟨by rfl, ?_⟩) ?_ ?_
               rotate_left
               ·intro w'
                go_simp
                with_reducible rfl
               rotate_left
               ·simp only [Act.put, List.setIfInBounds_toArray, List.set_cons_zero, List.set_cons_succ, i64_w, i32_w]
                rfl
               refine take_ (i := 37) (N := some 82) (v := ?_) (a' := ?_) #[true, true, false, true, true, false, false, true, true, true, false, false, true, true, false, false, true, true, true, false, false, true, true, true, false, false, true, true, true, false, false, true, true, true, false, false, true, true, false, false, false, false] rfl rfl (take_ofW HT_.out HW_.out (by kernel_rfl)) (fun _ _ _ h => h) (Or.inl ⟨by rfl, ?_⟩) hHeld ?_ ?_
               rotate_left
               ·rintro w' ⟨s0, s1, s2, s3, s4, s5, s6, s7, s8, s9, s10, s11, s12, s13, s14, s15⟩
                go_simp
                with_reducible rfl
               rotate_left
               ·simp only [Act.put, List.setIfInBounds_toArray, List.set_cons_zero, List.set_cons_succ, i64_w, i32_w]
                rfl
               refine pure_ (i := 38) (N := some 83) (v := ?_) (a' := ?_) #[true, true, false, true, true, false, false, true, true, true, false, false, true, true, false, false, true, true, true, false, false, true, true, true, false, false, true, true, true, false, false, true, true, true, false, false, true, true, true, false, false, false] rfl rfl (any_of HT_.out (by kernel_rfl)) (fun _ _ _ h => h) (Or.inl ⟨by rfl, ?_⟩) ?_ ?_
               rotate_left
               ·intro w'
                go_simp
                with_reducible rfl
               rotate_left
               ·simp only [Act.put, List.setIfInBounds_toArray, List.set_cons_zero, List.set_cons_succ, i64_w, i32_w]
                rfl
               refine one_ (i := 2) (N := some 47) #[true, true, true, true, true, false, false, true, true, true, false, false, true, true, false, false, true, true, true, false, false, true, true, true, false, false, true, true, true, false, false, true, true, true, false, false, true, true, true, false, false, false] rfl rfl (one_of HT_.out (by kernel_rfl)) (by decide) (fun K hK => ?_)
               refine goes_ Tryd.func22 (by kernel_rfl) rfl #[.int .u64 (IntKind.u64.wrap (wrap64 ((wrap64 ((wrap64 ((wrap64 ((wrap64 ((wrap64 (t142 + t143)) + (wrap64 (4 * a0_7)))) + t144)) + t145)) + t146)) + t147))), .int .i64 1] (by first | rfl | exact wanted_on rfl rfl rfl (by first | rfl | (simp [*]; done) | (simp [*, IntKind.wrap_u32]; done))) rfl rfl (by (try simp only [List.map_toArray, List.map_cons, List.map_nil]); first | done | rfl | (simp only [List.length_drop, List.length_take]; rfl)) ?_
               with_reducible refine (gangwayref01_Bytes.calls k (IntKind.u64.wrap (wrap64 ((wrap64 ((wrap64 ((wrap64 ((wrap64 ((wrap64 (t142 + t143)) + (wrap64 (4 * a0_7)))) + t144)) + t145)) + t146)) + t147))) 1 t148 _ A16.out).mono ?_
               rintro e w43 ⟨rfl, hb⟩
               refine ⟨_, rfl, ?_⟩
               have n0_ := Aside0.mk (blk_below (g := gb140) (o := .cells #[.int .i64 a0_0, .bool a0_1, .bool a0_2, .bool a0_3, .bool a0_4, .bool a0_5, .bool a0_6, .int .i64 a0_7, .int .u64 a0_8, .int .i64 a0_9, .int .u64 a0_10, .int .i64 a0_11, .int .i64 a0_12, .int .i64 a0_13, .int .i64 a0_14, .int .i64 a0_15] 24 (0, 0)) (by (with_reducible repeat (first | refine blk_drewN ?_ _ | refine blk_drew ?_ | refine blk_alloc ?_ _)); exact BK140.out) hb)
               have n1_ := Aside0.mk (below_step (by repeat (first | (with_reducible first | exact HB.out | apply below_alloc | apply pw_below_drewN | apply below_drew1 | refine below_set ?_ GE140.out) | exact HB.out)) hb)
               clear BK140
               clear HB
               have BK140 := n0_
               have HB := n1_
               clear n0_ n1_
               (try clear hb)
               (try clear hb2)
               (try clear hk)
               (try clear hi)
               refine hK.out _ _ ⟨(blk_cell BK140.out 0).trans rfl, (blk_cell BK140.out 1).trans rfl, (blk_cell BK140.out 2).trans rfl, (blk_cell BK140.out 3).trans rfl, (blk_cell BK140.out 4).trans rfl, (blk_cell BK140.out 5).trans rfl, (blk_cell BK140.out 6).trans rfl, (blk_cell BK140.out 7).trans rfl, (blk_cell BK140.out 8).trans rfl, (blk_cell BK140.out 9).trans rfl, (blk_cell BK140.out 10).trans rfl, (blk_cell BK140.out 11).trans rfl, (blk_cell BK140.out 12).trans rfl, (blk_cell BK140.out 13).trans rfl, (blk_cell BK140.out 14).trans rfl, (blk_cell BK140.out 15).trans rfl⟩ (fun hHeld => ?_)
               clear hK K
               refine norm_ (a' := ?_) ?_ ?_
               rotate_left
               ·show Act.put _ (some 47) _ = _
                simp only [Act.put, List.setIfInBounds_toArray, List.set_cons_zero, List.set_cons_succ, i64_w, i32_w]
                rfl
               refine one_ (i := 5) (N := some 50) #[true, true, true, true, true, true, false, true, true, true, false, false, true, true, false, false, true, true, true, false, false, true, true, true, false, false, true, true, true, false, false, true, true, true, false, false, true, true, true, false, false, false] rfl rfl (one_of HT_.out (by kernel_rfl)) (by decide) (fun K hK => ?_)
               refine goes_ Tryd.func22 (by kernel_rfl) rfl #[.int .u64 a0_8, .int .i64 8] (by first | rfl | exact wanted_on rfl rfl rfl (by first | rfl | (simp [*]; done) | (simp [*, IntKind.wrap_u32]; done))) rfl rfl (by (try simp only [List.map_toArray, List.map_cons, List.map_nil]); first | done | rfl | (simp only [List.length_drop, List.length_take]; rfl)) ?_
               with_reducible refine (gangwayref01_Bytes.calls k a0_8 8 t149 _ A17.out).mono ?_
               rintro e w44 ⟨rfl, hb⟩
               refine ⟨_, rfl, ?_⟩
               have n0_ := Aside0.mk (blk_below (g := gb140) (o := .cells #[.int .i64 a0_0, .bool a0_1, .bool a0_2, .bool a0_3, .bool a0_4, .bool a0_5, .bool a0_6, .int .i64 a0_7, .int .u64 a0_8, .int .i64 a0_9, .int .u64 a0_10, .int .i64 a0_11, .int .i64 a0_12, .int .i64 a0_13, .int .i64 a0_14, .int .i64 a0_15] 24 (0, 0)) (by (with_reducible repeat (first | refine blk_drewN ?_ _ | refine blk_drew ?_ | refine blk_alloc ?_ _)); exact BK140.out) hb)
               have n1_ := Aside0.mk (below_step (by repeat (first | (with_reducible first | exact HB.out | apply below_alloc | apply pw_below_drewN | apply below_drew1 | refine below_set ?_ GE140.out) | exact HB.out)) hb)
               clear BK140
               clear HB
               have BK140 := n0_
               have HB := n1_
               clear n0_ n1_
               (try clear hb)
               (try clear hb2)
               (try clear hk)
               (try clear hi)
               refine hK.out _ _ ⟨(blk_cell BK140.out 0).trans rfl, (blk_cell BK140.out 1).trans rfl, (blk_cell BK140.out 2).trans rfl, (blk_cell BK140.out 3).trans rfl, (blk_cell BK140.out 4).trans rfl, (blk_cell BK140.out 5).trans rfl, (blk_cell BK140.out 6).trans rfl, (blk_cell BK140.out 7).trans rfl, (blk_cell BK140.out 8).trans rfl, (blk_cell BK140.out 9).trans rfl, (blk_cell BK140.out 10).trans rfl, (blk_cell BK140.out 11).trans rfl, (blk_cell BK140.out 12).trans rfl, (blk_cell BK140.out 13).trans rfl, (blk_cell BK140.out 14).trans rfl, (blk_cell BK140.out 15).trans rfl⟩ (fun hHeld => ?_)
               clear hK K
               refine norm_ (a' := ?_) ?_ ?_
               rotate_left
               ·show Act.put _ (some 50) _ = _
                simp only [Act.put, List.setIfInBounds_toArray, List.set_cons_zero, List.set_cons_succ, i64_w, i32_w]
                rfl
               refine pure_ (i := 6) (N := some 51) (v := ?_) (a' := ?_) #[true, true, true, true, true, true, true, true, true, true, false, false, true, true, false, false, true, true, true, false, false, true, true, true, false, false, true, true, true, false, false, true, true, true, false, false, true, true, true, false, false, false] rfl rfl (any_of HT_.out (by kernel_rfl)) (fun _ _ _ h => h) (Or.inl ⟨by rfl, ?_⟩) ?_ ?_
               rotate_left
               ·intro w'
                go_simp
                with_reducible rfl
               rotate_left
               ·simp only [Act.put, List.setIfInBounds_toArray, List.set_cons_zero, List.set_cons_succ, i64_w, i32_w]
                rfl
               refine one_ (i := 10) (N := some 55) #[true, true, true, true, true, true, true, true, true, true, true, false, true, true, false, false, true, true, true, false, false, true, true, true, false, false, true, true, true, false, false, true, true, true, false, false, true, true, true, false, false, false] rfl rfl (one_of HT_.out (by kernel_rfl)) (by decide) (fun K hK => ?_)
               refine goes_ Tryd.func22 (by kernel_rfl) rfl #[.int .u64 (IntKind.u64.wrap (a0_9)), .int .i64 4] (by first | rfl | exact wanted_on rfl rfl rfl (by first | rfl | (simp [*]; done) | (simp [*, IntKind.wrap_u32]; done))) rfl rfl (by (try simp only [List.map_toArray, List.map_cons, List.map_nil]); first | done | rfl | (simp only [List.length_drop, List.length_take]; rfl)) ?_
               with_reducible refine (gangwayref01_Bytes.calls k (IntKind.u64.wrap (a0_9)) 4 t150 _ A19.out).mono ?_
               rintro e w45 ⟨rfl, hb⟩
               refine ⟨_, rfl, ?_⟩
               have n0_ := Aside0.mk (blk_below (g := gb140) (o := .cells #[.int .i64 a0_0, .bool a0_1, .bool a0_2, .bool a0_3, .bool a0_4, .bool a0_5, .bool a0_6, .int .i64 a0_7, .int .u64 a0_8, .int .i64 a0_9, .int .u64 a0_10, .int .i64 a0_11, .int .i64 a0_12, .int .i64 a0_13, .int .i64 a0_14, .int .i64 a0_15] 24 (0, 0)) (by (with_reducible repeat (first | refine blk_drewN ?_ _ | refine blk_drew ?_ | refine blk_alloc ?_ _)); exact BK140.out) hb)
               have n1_ := Aside0.mk (below_step (by repeat (first | (with_reducible first | exact HB.out | apply below_alloc | apply pw_below_drewN | apply below_drew1 | refine below_set ?_ GE140.out) | exact HB.out)) hb)
               clear BK140
               clear HB
               have BK140 := n0_
               have HB := n1_
               clear n0_ n1_
               (try clear hb)
               (try clear hb2)
               (try clear hk)
               (try clear hi)
               refine hK.out _ _ ⟨(blk_cell BK140.out 0).trans rfl, (blk_cell BK140.out 1).trans rfl, (blk_cell BK140.out 2).trans rfl, (blk_cell BK140.out 3).trans rfl, (blk_cell BK140.out 4).trans rfl, (blk_cell BK140.out 5).trans rfl, (blk_cell BK140.out 6).trans rfl, (blk_cell BK140.out 7).trans rfl, (blk_cell BK140.out 8).trans rfl, (blk_cell BK140.out 9).trans rfl, (blk_cell BK140.out 10).trans rfl, (blk_cell BK140.out 11).trans rfl, (blk_cell BK140.out 12).trans rfl, (blk_cell BK140.out 13).trans rfl, (blk_cell BK140.out 14).trans rfl, (blk_cell BK140.out 15).trans rfl⟩ (fun hHeld => ?_)
               clear hK K
               refine norm_ (a' := ?_) ?_ ?_
               rotate_left
               ·show Act.put _ (some 55) _ = _
                simp only [Act.put, List.setIfInBounds_toArray, List.set_cons_zero, List.set_cons_succ, i64_w, i32_w]
                rfl
               refine pure_ (i := 11) (N := some 56) (v := ?_) (a' := ?_) #[true, true, true, true, true, true, true, true, true, true, true, true, true, true, false, false, true, true, true, false, false, true, true, true, false, false, true, true, true, false, false, true, true, true, false, false, true, true, true, false, false, false] rfl rfl (any_of HT_.out (by kernel_rfl)) (fun _ _ _ h => h) (Or.inl ⟨by rfl, ?_⟩) ?_ ?_
               rotate_left
               ·intro w'
                go_simp
                with_reducible rfl
               rotate_left
               ·simp only [Act.put, List.setIfInBounds_toArray, List.set_cons_zero, List.set_cons_succ, i64_w, i32_w]
                rfl
               refine one_ (i := 14) (N := some 59) #[true, true, true, true, true, true, true, true, true, true, true, true, true, true, true, false, true, true, true, false, false, true, true, true, false, false, true, true, true, false, false, true, true, true, false, false, true, true, true, false, false, false] rfl rfl (one_of HT_.out (by kernel_rfl)) (by decide) (fun K hK => ?_)
               refine goes_ Tryd.func22 (by kernel_rfl) rfl #[.int .u64 a0_10, .int .i64 8] (by first | rfl | exact wanted_on rfl rfl rfl (by first | rfl | (simp [*]; done) | (simp [*, IntKind.wrap_u32]; done))) rfl rfl (by (try simp only [List.map_toArray, List.map_cons, List.map_nil]); first | done | rfl | (simp only [List.length_drop, List.length_take]; rfl)) ?_
               with_reducible refine (gangwayref01_Bytes.calls k a0_10 8 t151 _ A21.out).mono ?_
               rintro e w46 ⟨rfl, hb⟩
               refine ⟨_, rfl, ?_⟩
               have n0_ := Aside0.mk (blk_below (g := gb140) (o := .cells #[.int .i64 a0_0, .bool a0_1, .bool a0_2, .bool a0_3, .bool a0_4, .bool a0_5, .bool a0_6, .int .i64 a0_7, .int .u64 a0_8, .int .i64 a0_9, .int .u64 a0_10, .int .i64 a0_11, .int .i64 a0_12, .int .i64 a0_13, .int .i64 a0_14, .int .i64 a0_15] 24 (0, 0)) (by (with_reducible repeat (first | refine blk_drewN ?_ _ | refine blk_drew ?_ | refine blk_alloc ?_ _)); exact BK140.out) hb)
               have n1_ := Aside0.mk (below_step (by repeat (first | (with_reducible first | exact HB.out | apply below_alloc | apply pw_below_drewN | apply below_drew1 | refine below_set ?_ GE140.out) | exact HB.out)) hb)
               clear BK140
               clear HB
               have BK140 := n0_
               have HB := n1_
               clear n0_ n1_
               (try clear hb)
               (try clear hb2)
               (try clear hk)
               (try clear hi)
               refine hK.out _ _ ⟨(blk_cell BK140.out 0).trans rfl, (blk_cell BK140.out 1).trans rfl, (blk_cell BK140.out 2).trans rfl, (blk_cell BK140.out 3).trans rfl, (blk_cell BK140.out 4).trans rfl, (blk_cell BK140.out 5).trans rfl, (blk_cell BK140.out 6).trans rfl, (blk_cell BK140.out 7).trans rfl, (blk_cell BK140.out 8).trans rfl, (blk_cell BK140.out 9).trans rfl, (blk_cell BK140.out 10).trans rfl, (blk_cell BK140.out 11).trans rfl, (blk_cell BK140.out 12).trans rfl, (blk_cell BK140.out 13).trans rfl, (blk_cell BK140.out 14).trans rfl, (blk_cell BK140.out 15).trans rfl⟩ (fun hHeld => ?_)
               clear hK K
               refine norm_ (a' := ?_) ?_ ?_
               rotate_left
               ·show Act.put _ (some 59) _ = _
                simp only [Act.put, List.setIfInBounds_toArray, List.set_cons_zero, List.set_cons_succ, i64_w, i32_w]
                rfl
               refine pure_ (i := 15) (N := some 60) (v := ?_) (a' := ?_) #[true, true, true, true, true, true, true, true, true, true, true, true, true, true, true, true, true, true, true, false, false, true, true, true, false, false, true, true, true, false, false, true, true, true, false, false, true, true, true, false, false, false] rfl rfl (any_of HT_.out (by kernel_rfl)) (fun _ _ _ h => h) (Or.inl ⟨by rfl, ?_⟩) ?_ ?_
               rotate_left
               ·intro w'
                go_simp
                with_reducible rfl
               rotate_left
               ·simp only [Act.put, List.setIfInBounds_toArray, List.set_cons_zero, List.set_cons_succ, i64_w, i32_w]
                rfl
               refine one_ (i := 19) (N := some 64) #[true, true, true, true, true, true, true, true, true, true, true, true, true, true, true, true, true, true, true, true, false, true, true, true, false, false, true, true, true, false, false, true, true, true, false, false, true, true, true, false, false, false] rfl rfl (one_of HT_.out (by kernel_rfl)) (by decide) (fun K hK => ?_)
               refine goes_ Tryd.func22 (by kernel_rfl) rfl #[.int .u64 (IntKind.u64.wrap (a0_11)), .int .i64 2] (by first | rfl | exact wanted_on rfl rfl rfl (by first | rfl | (simp [*]; done) | (simp [*, IntKind.wrap_u32]; done))) rfl rfl (by (try simp only [List.map_toArray, List.map_cons, List.map_nil]); first | done | rfl | (simp only [List.length_drop, List.length_take]; rfl)) ?_
               with_reducible refine (gangwayref01_Bytes.calls k (IntKind.u64.wrap (a0_11)) 2 t152 _ A23.out).mono ?_
               rintro e w47 ⟨rfl, hb⟩
               refine ⟨_, rfl, ?_⟩
               have n0_ := Aside0.mk (blk_below (g := gb140) (o := .cells #[.int .i64 a0_0, .bool a0_1, .bool a0_2, .bool a0_3, .bool a0_4, .bool a0_5, .bool a0_6, .int .i64 a0_7, .int .u64 a0_8, .int .i64 a0_9, .int .u64 a0_10, .int .i64 a0_11, .int .i64 a0_12, .int .i64 a0_13, .int .i64 a0_14, .int .i64 a0_15] 24 (0, 0)) (by (with_reducible repeat (first | refine blk_drewN ?_ _ | refine blk_drew ?_ | refine blk_alloc ?_ _)); exact BK140.out) hb)
               have n1_ := Aside0.mk (below_step (by repeat (first | (with_reducible first | exact HB.out | apply below_alloc | apply pw_below_drewN | apply below_drew1 | refine below_set ?_ GE140.out) | exact HB.out)) hb)
               clear BK140
               clear HB
               have BK140 := n0_
               have HB := n1_
               clear n0_ n1_
               (try clear hb)
               (try clear hb2)
               (try clear hk)
               (try clear hi)
               refine hK.out _ _ ⟨(blk_cell BK140.out 0).trans rfl, (blk_cell BK140.out 1).trans rfl, (blk_cell BK140.out 2).trans rfl, (blk_cell BK140.out 3).trans rfl, (blk_cell BK140.out 4).trans rfl, (blk_cell BK140.out 5).trans rfl, (blk_cell BK140.out 6).trans rfl, (blk_cell BK140.out 7).trans rfl, (blk_cell BK140.out 8).trans rfl, (blk_cell BK140.out 9).trans rfl, (blk_cell BK140.out 10).trans rfl, (blk_cell BK140.out 11).trans rfl, (blk_cell BK140.out 12).trans rfl, (blk_cell BK140.out 13).trans rfl, (blk_cell BK140.out 14).trans rfl, (blk_cell BK140.out 15).trans rfl⟩ (fun hHeld => ?_)
               clear hK K
               refine norm_ (a' := ?_) ?_ ?_
               rotate_left
               ·show Act.put _ (some 64) _ = _
                simp only [Act.put, List.setIfInBounds_toArray, List.set_cons_zero, List.set_cons_succ, i64_w, i32_w]
                rfl
               refine pure_ (i := 20) (N := some 65) (v := ?_) (a' := ?_) #[true, true, true, true, true, true, true, true, true, true, true, true, true, true, true, true, true, true, true, true, true, true, true, true, false, false, true, true, true, false, false, true, true, true, false, false, true, true, true, false, false, false] rfl rfl (any_of HT_.out (by kernel_rfl)) (fun _ _ _ h => h) (Or.inl ⟨by rfl, ?_⟩) ?_ ?_
               rotate_left
               ·intro w'
                go_simp
                with_reducible rfl
               rotate_left
               ·simp only [Act.put, List.setIfInBounds_toArray, List.set_cons_zero, List.set_cons_succ, i64_w, i32_w]
                rfl
               refine one_ (i := 24) (N := some 69) #[true, true, true, true, true, true, true, true, true, true, true, true, true, true, true, true, true, true, true, true, true, true, true, true, true, false, true, true, true, false, false, true, true, true, false, false, true, true, true, false, false, false] rfl rfl (one_of HT_.out (by kernel_rfl)) (by decide) (fun K hK => ?_)
               refine goes_ Tryd.func22 (by kernel_rfl) rfl #[.int .u64 (IntKind.u64.wrap (a0_12)), .int .i64 2] (by first | rfl | exact wanted_on rfl rfl rfl (by first | rfl | (simp [*]; done) | (simp [*, IntKind.wrap_u32]; done))) rfl rfl (by (try simp only [List.map_toArray, List.map_cons, List.map_nil]); first | done | rfl | (simp only [List.length_drop, List.length_take]; rfl)) ?_
               with_reducible refine (gangwayref01_Bytes.calls k (IntKind.u64.wrap (a0_12)) 2 t153 _ A25.out).mono ?_
               rintro e w48 ⟨rfl, hb⟩
               refine ⟨_, rfl, ?_⟩
               have n0_ := Aside0.mk (blk_below (g := gb140) (o := .cells #[.int .i64 a0_0, .bool a0_1, .bool a0_2, .bool a0_3, .bool a0_4, .bool a0_5, .bool a0_6, .int .i64 a0_7, .int .u64 a0_8, .int .i64 a0_9, .int .u64 a0_10, .int .i64 a0_11, .int .i64 a0_12, .int .i64 a0_13, .int .i64 a0_14, .int .i64 a0_15] 24 (0, 0)) (by (with_reducible repeat (first | refine blk_drewN ?_ _ | refine blk_drew ?_ | refine blk_alloc ?_ _)); exact BK140.out) hb)
               have n1_ := Aside0.mk (below_step (by repeat (first | (with_reducible first | exact HB.out | apply below_alloc | apply pw_below_drewN | apply below_drew1 | refine below_set ?_ GE140.out) | exact HB.out)) hb)
               clear BK140
               clear HB
               have BK140 := n0_
               have HB := n1_
               clear n0_ n1_
               (try clear hb)
               (try clear hb2)
               (try clear hk)
               (try clear hi)
               refine hK.out _ _ ⟨(blk_cell BK140.out 0).trans rfl, (blk_cell BK140.out 1).trans rfl, (blk_cell BK140.out 2).trans rfl, (blk_cell BK140.out 3).trans rfl, (blk_cell BK140.out 4).trans rfl, (blk_cell BK140.out 5).trans rfl, (blk_cell BK140.out 6).trans rfl, (blk_cell BK140.out 7).trans rfl, (blk_cell BK140.out 8).trans rfl, (blk_cell BK140.out 9).trans rfl, (blk_cell BK140.out 10).trans rfl, (blk_cell BK140.out 11).trans rfl, (blk_cell BK140.out 12).trans rfl, (blk_cell BK140.out 13).trans rfl, (blk_cell BK140.out 14).trans rfl, (blk_cell BK140.out 15).trans rfl⟩ (fun hHeld => ?_)
               clear hK K
               refine norm_ (a' := ?_) ?_ ?_
               rotate_left
               ·show Act.put _ (some 69) _ = _
                simp only [Act.put, List.setIfInBounds_toArray, List.set_cons_zero, List.set_cons_succ, i64_w, i32_w]
                rfl
               refine pure_ (i := 25) (N := some 70) (v := ?_) (a' := ?_) #[true, true, true, true, true, true, true, true, true, true, true, true, true, true, true, true, true, true, true, true, true, true, true, true, true, true, true, true, true, false, false, true, true, true, false, false, true, true, true, false, false, false] rfl rfl (any_of HT_.out (by kernel_rfl)) (fun _ _ _ h => h) (Or.inl ⟨by rfl, ?_⟩) ?_ ?_
               rotate_left
               ·intro w'
                go_simp
                with_reducible rfl
               rotate_left
               ·simp only [Act.put, List.setIfInBounds_toArray, List.set_cons_zero, List.set_cons_succ, i64_w, i32_w]
                rfl
               refine one_ (i := 29) (N := some 74) #[true, true, true, true, true, true, true, true, true, true, true, true, true, true, true, true, true, true, true, true, true, true, true, true, true, true, true, true, true, true, false, true, true, true, false, false, true, true, true, false, false, false] rfl rfl (one_of HT_.out (by kernel_rfl)) (by decide) (fun K hK => ?_)
               refine goes_ Tryd.func22 (by kernel_rfl) rfl #[.int .u64 (IntKind.u64.wrap (a0_13)), .int .i64 2] (by first | rfl | exact wanted_on rfl rfl rfl (by first | rfl | (simp [*]; done) | (simp [*, IntKind.wrap_u32]; done))) rfl rfl (by (try simp only [List.map_toArray, List.map_cons, List.map_nil]); first | done | rfl | (simp only [List.length_drop, List.length_take]; rfl)) ?_
               with_reducible refine (gangwayref01_Bytes.calls k (IntKind.u64.wrap (a0_13)) 2 t154 _ A27.out).mono ?_
               rintro e w49 ⟨rfl, hb⟩
               refine ⟨_, rfl, ?_⟩
               have n0_ := Aside0.mk (blk_below (g := gb140) (o := .cells #[.int .i64 a0_0, .bool a0_1, .bool a0_2, .bool a0_3, .bool a0_4, .bool a0_5, .bool a0_6, .int .i64 a0_7, .int .u64 a0_8, .int .i64 a0_9, .int .u64 a0_10, .int .i64 a0_11, .int .i64 a0_12, .int .i64 a0_13, .int .i64 a0_14, .int .i64 a0_15] 24 (0, 0)) (by (with_reducible repeat (first | refine blk_drewN ?_ _ | refine blk_drew ?_ | refine blk_alloc ?_ _)); exact BK140.out) hb)
               have n1_ := Aside0.mk (below_step (by repeat (first | (with_reducible first | exact HB.out | apply below_alloc | apply pw_below_drewN | apply below_drew1 | refine below_set ?_ GE140.out) | exact HB.out)) hb)
               clear BK140
               clear HB
               have BK140 := n0_
               have HB := n1_
               clear n0_ n1_
               (try clear hb)
               (try clear hb2)
               (try clear hk)
               (try clear hi)
               refine hK.out _ _ ⟨(blk_cell BK140.out 0).trans rfl, (blk_cell BK140.out 1).trans rfl, (blk_cell BK140.out 2).trans rfl, (blk_cell BK140.out 3).trans rfl, (blk_cell BK140.out 4).trans rfl, (blk_cell BK140.out 5).trans rfl, (blk_cell BK140.out 6).trans rfl, (blk_cell BK140.out 7).trans rfl, (blk_cell BK140.out 8).trans rfl, (blk_cell BK140.out 9).trans rfl, (blk_cell BK140.out 10).trans rfl, (blk_cell BK140.out 11).trans rfl, (blk_cell BK140.out 12).trans rfl, (blk_cell BK140.out 13).trans rfl, (blk_cell BK140.out 14).trans rfl, (blk_cell BK140.out 15).trans rfl⟩ (fun hHeld => ?_)
               clear hK K
               refine norm_ (a' := ?_) ?_ ?_
               rotate_left
               ·show Act.put _ (some 74) _ = _
                simp only [Act.put, List.setIfInBounds_toArray, List.set_cons_zero, List.set_cons_succ, i64_w, i32_w]
                rfl
               refine pure_ (i := 30) (N := some 75) (v := ?_) (a' := ?_) #[true, true, true, true, true, true, true, true, true, true, true, true, true, true, true, true, true, true, true, true, true, true, true, true, true, true, true, true, true, true, true, true, true, true, false, false, true, true, true, false, false, false] rfl rfl (any_of HT_.out (by kernel_rfl)) (fun _ _ _ h => h) (Or.inl ⟨by rfl, ?_⟩) ?_ ?_
               rotate_left
               ·intro w'
                go_simp
                with_reducible rfl
               rotate_left
               ·simp only [Act.put, List.setIfInBounds_toArray, List.set_cons_zero, List.set_cons_succ, i64_w, i32_w]
                rfl
               refine one_ (i := 34) (N := some 79) #[true, true, true, true, true, true, true, true, true, true, true, true, true, true, true, true, true, true, true, true, true, true, true, true, true, true, true, true, true, true, true, true, true, true, true, false, true, true, true, false, false, false] rfl rfl (one_of HT_.out (by kernel_rfl)) (by decide) (fun K hK => ?_)
               refine goes_ Tryd.func22 (by kernel_rfl) rfl #[.int .u64 (IntKind.u64.wrap (a0_14)), .int .i64 2] (by first | rfl | exact wanted_on rfl rfl rfl (by first | rfl | (simp [*]; done) | (simp [*, IntKind.wrap_u32]; done))) rfl rfl (by (try simp only [List.map_toArray, List.map_cons, List.map_nil]); first | done | rfl | (simp only [List.length_drop, List.length_take]; rfl)) ?_
               with_reducible refine (gangwayref01_Bytes.calls k (IntKind.u64.wrap (a0_14)) 2 t155 _ A29.out).mono ?_
               rintro e w50 ⟨rfl, hb⟩
               refine ⟨_, rfl, ?_⟩
               have n0_ := Aside0.mk (blk_below (g := gb140) (o := .cells #[.int .i64 a0_0, .bool a0_1, .bool a0_2, .bool a0_3, .bool a0_4, .bool a0_5, .bool a0_6, .int .i64 a0_7, .int .u64 a0_8, .int .i64 a0_9, .int .u64 a0_10, .int .i64 a0_11, .int .i64 a0_12, .int .i64 a0_13, .int .i64 a0_14, .int .i64 a0_15] 24 (0, 0)) (by (with_reducible repeat (first | refine blk_drewN ?_ _ | refine blk_drew ?_ | refine blk_alloc ?_ _)); exact BK140.out) hb)
               have n1_ := Aside0.mk (below_step (by repeat (first | (with_reducible first | exact HB.out | apply below_alloc | apply pw_below_drewN | apply below_drew1 | refine below_set ?_ GE140.out) | exact HB.out)) hb)
               clear BK140
               clear HB
               have BK140 := n0_
               have HB := n1_
               clear n0_ n1_
               (try clear hb)
               (try clear hb2)
               (try clear hk)
               (try clear hi)
               refine hK.out _ _ ⟨(blk_cell BK140.out 0).trans rfl, (blk_cell BK140.out 1).trans rfl, (blk_cell BK140.out 2).trans rfl, (blk_cell BK140.out 3).trans rfl, (blk_cell BK140.out 4).trans rfl, (blk_cell BK140.out 5).trans rfl, (blk_cell BK140.out 6).trans rfl, (blk_cell BK140.out 7).trans rfl, (blk_cell BK140.out 8).trans rfl, (blk_cell BK140.out 9).trans rfl, (blk_cell BK140.out 10).trans rfl, (blk_cell BK140.out 11).trans rfl, (blk_cell BK140.out 12).trans rfl, (blk_cell BK140.out 13).trans rfl, (blk_cell BK140.out 14).trans rfl, (blk_cell BK140.out 15).trans rfl⟩ (fun hHeld => ?_)
               clear hK K
               refine norm_ (a' := ?_) ?_ ?_
               rotate_left
               ·show Act.put _ (some 79) _ = _
                simp only [Act.put, List.setIfInBounds_toArray, List.set_cons_zero, List.set_cons_succ, i64_w, i32_w]
                rfl
               refine pure_ (i := 35) (N := some 80) (v := ?_) (a' := ?_) #[true, true, true, true, true, true, true, true, true, true, true, true, true, true, true, true, true, true, true, true, true, true, true, true, true, true, true, true, true, true, true, true, true, true, true, true, true, true, true, false, false, false] rfl rfl (any_of HT_.out (by kernel_rfl)) (fun _ _ _ h => h) (Or.inl ⟨by rfl, ?_⟩) ?_ ?_
               rotate_left
               ·intro w'
                go_simp
                with_reducible rfl
               rotate_left
               ·simp only [Act.put, List.setIfInBounds_toArray, List.set_cons_zero, List.set_cons_succ, i64_w, i32_w]
                rfl
               refine one_ (i := 39) (N := some 84) #[true, true, true, true, true, true, true, true, true, true, true, true, true, true, true, true, true, true, true, true, true, true, true, true, true, true, true, true, true, true, true, true, true, true, true, true, true, true, true, true, false, false] rfl rfl (one_of HT_.out (by kernel_rfl)) (by decide) (fun K hK => ?_)
               refine goes_ Tryd.func22 (by kernel_rfl) rfl #[.int .u64 (IntKind.u64.wrap (a0_15)), .int .i64 2] (by first | rfl | exact wanted_on rfl rfl rfl (by first | rfl | (simp [*]; done) | (simp [*, IntKind.wrap_u32]; done))) rfl rfl (by (try simp only [List.map_toArray, List.map_cons, List.map_nil]); first | done | rfl | (simp only [List.length_drop, List.length_take]; rfl)) ?_
               with_reducible refine (gangwayref01_Bytes.calls k (IntKind.u64.wrap (a0_15)) 2 t156 _ A31.out).mono ?_
               rintro e w51 ⟨rfl, hb⟩
               refine ⟨_, rfl, ?_⟩
               have n0_ := Aside0.mk (blk_below (g := gb140) (o := .cells #[.int .i64 a0_0, .bool a0_1, .bool a0_2, .bool a0_3, .bool a0_4, .bool a0_5, .bool a0_6, .int .i64 a0_7, .int .u64 a0_8, .int .i64 a0_9, .int .u64 a0_10, .int .i64 a0_11, .int .i64 a0_12, .int .i64 a0_13, .int .i64 a0_14, .int .i64 a0_15] 24 (0, 0)) (by (with_reducible repeat (first | refine blk_drewN ?_ _ | refine blk_drew ?_ | refine blk_alloc ?_ _)); exact BK140.out) hb)
               have n1_ := Aside0.mk (below_step (by repeat (first | (with_reducible first | exact HB.out | apply below_alloc | apply pw_below_drewN | apply below_drew1 | refine below_set ?_ GE140.out) | exact HB.out)) hb)
               clear BK140
               clear HB
               have BK140 := n0_
               have HB := n1_
               clear n0_ n1_
               (try clear hb)
               (try clear hb2)
               (try clear hk)
               (try clear hi)
               refine hK.out _ _ ⟨(blk_cell BK140.out 0).trans rfl, (blk_cell BK140.out 1).trans rfl, (blk_cell BK140.out 2).trans rfl, (blk_cell BK140.out 3).trans rfl, (blk_cell BK140.out 4).trans rfl, (blk_cell BK140.out 5).trans rfl, (blk_cell BK140.out 6).trans rfl, (blk_cell BK140.out 7).trans rfl, (blk_cell BK140.out 8).trans rfl, (blk_cell BK140.out 9).trans rfl, (blk_cell BK140.out 10).trans rfl, (blk_cell BK140.out 11).trans rfl, (blk_cell BK140.out 12).trans rfl, (blk_cell BK140.out 13).trans rfl, (blk_cell BK140.out 14).trans rfl, (blk_cell BK140.out 15).trans rfl⟩ (fun hHeld => ?_)
               clear hK K
               refine norm_ (a' := ?_) ?_ ?_
               rotate_left
               ·show Act.put _ (some 84) _ = _
                simp only [Act.put, List.setIfInBounds_toArray, List.set_cons_zero, List.set_cons_succ, i64_w, i32_w]
                rfl
               refine pure_ (i := 40) (N := some 85) (v := ?_) (a' := ?_) #[true, true, true, true, true, true, true, true, true, true, true, true, true, true, true, true, true, true, true, true, true, true, true, true, true, true, true, true, true, true, true, true, true, true, true, true, true, true, true, true, true, false] rfl rfl (any_of HT_.out (by kernel_rfl)) (fun _ _ _ h => h) (Or.inl ⟨by rfl, ?_⟩) ?_ ?_
               rotate_left
               ·intro w'
                go_simp
                with_reducible rfl
               rotate_left
               ·simp only [Act.put, List.setIfInBounds_toArray, List.set_cons_zero, List.set_cons_succ, i64_w, i32_w]
                rfl
               refine pure_ (i := 41) (N := some 7) (v := ?_) (a' := ?_) #[true, true, true, true, true, true, true, true, true, true, true, true, true, true, true, true, true, true, true, true, true, true, true, true, true, true, true, true, true, true, true, true, true, true, true, true, true, true, true, true, true, true] rfl rfl (any_of HT_.out (by kernel_rfl)) (fun _ _ _ h => h) (Or.inl ⟨by rfl, ?_⟩) ?_ ?_
               rotate_left
               ·intro w'
                go_simp
                with_reducible rfl
               rotate_left
               ·simp only [Act.put, List.setIfInBounds_toArray, List.set_cons_zero, List.set_cons_succ, i64_w, i32_w]
                rfl
               refine done_ (done_of HT_.out (by kernel_rfl)) ?_
               obtain ⟨hcz52_0, hcz52_1, hcz52_2, hcz52_3, hcz52_4, hcz52_5, hcz52_6, hcz52_7, hcz52_8, hcz52_9, hcz52_10, hcz52_11, hcz52_12, hcz52_13, hcz52_14, hcz52_15⟩ := cells16 BK140.out
               obtain ⟨hfz52_0, hfz52_1, hfz52_2, hfz52_3, hfz52_4, hfz52_5, hfz52_6, hfz52_7, hfz52_8, hfz52_9, hfz52_10, hfz52_11, hfz52_12, hfz52_13, hfz52_14, hfz52_15⟩ := frozen16 BK140.out
               try go_wp2_with (first | ((with_reducible refine gate_st (ty := 24) rfl ?_); (try (with_reducible refine gate_gd rfl ?_; refine gate_guard (by first | rfl | exact wanted_on rfl rfl rfl (by first | rfl | (simp [*]; done))) ?_; dsimp only)); refine storeC16 rfl rfl rfl rfl rfl (by repeat (first | (with_reducible apply blk_far; case hp => assumption) | (with_reducible apply blk_set) | (with_reducible refine blk_drewN ?_ _) | (with_reducible refine blk_drew ?_) | (with_reducible refine blk_alloc ?_ _) | (first | with_reducible exact BK140.out))) (by first | (simp only [List.setIfInBounds_toArray, List.set_cons_zero, List.set_cons_succ] <;> rfl) | rfl) (by kernel_rfl) rfl ?_) | ((with_reducible refine gate_ld (ty := 24) rfl ?_); (try (with_reducible refine gate_gd rfl ?_; refine gate_guard (by first | rfl | exact wanted_on rfl rfl rfl (by first | rfl | (simp [*]; done))) ?_; dsimp only)); refine load_st rfl rfl rfl (by repeat (first | (with_reducible apply blk_far; case hp => assumption) | (with_reducible apply blk_set) | (with_reducible refine blk_drewN ?_ _) | (with_reducible refine blk_drew ?_) | (with_reducible refine blk_alloc ?_ _) | (first | with_reducible exact BK140.out))) (by first | (simp only [List.setIfInBounds_toArray, List.set_cons_zero, List.set_cons_succ] <;> rfl) | rfl) Tryd.underlying24 rfl (by kernel_rfl) ?_; (try simp only [Act.put, List.setIfInBounds_toArray, List.set_cons_zero, List.set_cons_succ])) | go_in)
               go_ret2
               exact ⟨by first | rfl | (simp [errW_none, errW_some] <;> rfl) | (simp [*, errW_none, errW_some] <;> rfl) | (simp [*, IntKind.wrap_u32]; done) | (simp_all [IntKind.wrap_u32]; done), by repeat (first | (with_reducible first | exact HB.out | apply below_alloc | apply pw_below_drewN | apply below_drew1 | refine below_set ?_ GE140.out) | exact HB.out)⟩
              ·rw [if_neg c36] at H
               exact absurd H (by simp)
             ·rw [if_neg c35] at H
              exact absurd H (by simp)
            ·rw [if_neg c34] at H
             exact absurd H (by simp)
           ·rw [if_neg c33] at H
            have c33b0 : (a0_0 == 2) = false := beq_eq_false_iff_ne.mpr c33
            have c33b1 : (a0_0 != 2) = true := bne_iff_ne.mpr c33
            by_cases c53 : 5 + 2 ≤ 9223372036854775807
            ·rw [if_pos c53] at H
             have c53b0 := eq_true c53
             have c53b1 : decide (5 + 2 ≤ 9223372036854775807) = true := decide_eq_true c53
             try have c53b2 : (9223372036854775807 < 5 + 2) = False := eq_false (Nat.not_lt.2 c53)
             by_cases c54 : 7 + ((((((((t148 ++ t149) ++ t150) ++ t151) ++ t152) ++ t153) ++ t154) ++ t155) ++ t156).size ≤ 9223372036854775807
             ·rw [if_pos c54] at H
              have c54b0 := eq_true c54
              have c54b1 : decide (7 + ((((((((t148 ++ t149) ++ t150) ++ t151) ++ t152) ++ t153) ++ t154) ++ t155) ++ t156).size ≤ 9223372036854775807) = true := decide_eq_true c54
              have c54z := c54
              simp only [ByteArray.size_append] at c54z
              have c54z1 := eq_true c54z
              have c54z2 := eq_false (Nat.not_lt.2 c54z)
              try have c54b2 : (9223372036854775807 < 7 + ((((((((t148 ++ t149) ++ t150) ++ t151) ++ t152) ++ t153) ++ t154) ++ t155) ++ t156).size) = False := eq_false (Nat.not_lt.2 c54)
              simp only [Option.some.injEq, Prod.mk.injEq] at H
              obtain ⟨rfl, rfl⟩ := H
              go_enter Tryd.func9, Tryd.ntmps9
              try go_wp2_with (first | ((with_reducible refine gate_st (ty := 24) rfl ?_); (try (with_reducible refine gate_gd rfl ?_; refine gate_guard (by first | rfl | exact wanted_on rfl rfl rfl (by first | rfl | (simp [*]; done))) ?_; dsimp only)); refine storeC16 rfl rfl rfl rfl rfl (by repeat (first | (with_reducible apply blk_far; case hp => assumption) | (with_reducible apply blk_set) | (with_reducible refine blk_drewN ?_ _) | (with_reducible refine blk_drew ?_) | (with_reducible refine blk_alloc ?_ _) | (first | with_reducible exact BK140.out))) (by first | (simp only [List.setIfInBounds_toArray, List.set_cons_zero, List.set_cons_succ] <;> rfl) | rfl) (by kernel_rfl) rfl ?_) | ((with_reducible refine gate_ld (ty := 24) rfl ?_); (try (with_reducible refine gate_gd rfl ?_; refine gate_guard (by first | rfl | exact wanted_on rfl rfl rfl (by first | rfl | (simp [*]; done))) ?_; dsimp only)); refine load_st rfl rfl rfl (by repeat (first | (with_reducible apply blk_far; case hp => assumption) | (with_reducible apply blk_set) | (with_reducible refine blk_drewN ?_ _) | (with_reducible refine blk_drew ?_) | (with_reducible refine blk_alloc ?_ _) | (first | with_reducible exact BK140.out))) (by first | (simp only [List.setIfInBounds_toArray, List.set_cons_zero, List.set_cons_succ] <;> rfl) | rfl) Tryd.underlying24 rfl (by kernel_rfl) ?_; (try simp only [Act.put, List.setIfInBounds_toArray, List.set_cons_zero, List.set_cons_succ])) | ((with_reducible refine gate_dst (N := 1) rfl ?_); refine box_event ?hg (N := 1) ?hd (cs := #[.int .i64 a0_0, .bool a0_1, .bool a0_2, .bool a0_3, .bool a0_4, .bool a0_5, .bool a0_6, .int .i64 a0_7, .int .u64 a0_8, .int .i64 a0_9, .int .u64 a0_10, .int .i64 a0_11, .int .i64 a0_12, .int .i64 a0_13, .int .i64 a0_14, .int .i64 a0_15]) (t := 24) ?hr ?_; (case hd => rfl); (case hg => rfl); (case hr => first | (go_simp; done) | (go_simp; rfl)); intro gb140 hg w55 hbox hb; have n0_ := Aside0.mk (below_step (by repeat (first | (with_reducible first | exact HB.out | apply below_alloc | apply pw_below_drewN | apply below_drew1) | exact HB.out)) hb); have n1_ := Aside0.mk (hbox); have n2_ := Aside0.mk ((by rw [hg]; exact (below_size (by repeat (first | (with_reducible first | exact HB.out | apply below_alloc | apply pw_below_drewN | apply below_drew1) | exact HB.out))) : w.heap.size ≤ gb140)); have n3_ := Aside0.mk ((by rw [hg]; exact (below_size (by repeat (first | (with_reducible first | exact HB.out | apply below_alloc | apply pw_below_drewN | apply below_drew1) | exact HB.out))) : w.heap.size ≤ gb140)); clear HB; have HB := n0_; have BK140 := n1_; have GW140 := n2_; have GE140 := n3_; clear n0_ n1_ n2_ n3_; clear hb hbox hg; obtain ⟨hcz56_0, hcz56_1, hcz56_2, hcz56_3, hcz56_4, hcz56_5, hcz56_6, hcz56_7, hcz56_8, hcz56_9, hcz56_10, hcz56_11, hcz56_12, hcz56_13, hcz56_14, hcz56_15⟩ := cells16 BK140.out; obtain ⟨hfz56_0, hfz56_1, hfz56_2, hfz56_3, hfz56_4, hfz56_5, hfz56_6, hfz56_7, hfz56_8, hfz56_9, hfz56_10, hfz56_11, hfz56_12, hfz56_13, hfz56_14, hfz56_15⟩ := frozen16 BK140.out) | ((with_reducible refine gate_callee (f := 12) rfl ?_); refine goesL_ (some 9) rfl rfl Tryd.func12 (by kernel_rfl) rfl #[.agg #[.int .i64 a0_0, .bool a0_1, .bool a0_2, .bool a0_3, .bool a0_4, .bool a0_5, .bool a0_6, .int .i64 a0_7, .int .u64 a0_8, .int .i64 a0_9, .int .u64 a0_10, .int .i64 a0_11, .int .i64 a0_12, .int .i64 a0_13, .int .i64 a0_14, .int .i64 a0_15]] rfl (by (try simp only [List.map_toArray, List.map_cons, List.map_nil]); first | done | rfl | (simp only [List.length_drop, List.length_take]; rfl)) ?_; (with_reducible refine (gangwayref09_Check.calls k a0_0 a0_1 a0_2 a0_3 a0_4 a0_5 a0_6 a0_7 a0_8 a0_9 a0_10 a0_11 a0_12 a0_13 a0_14 a0_15 t141 _ A2.out).mono ?_); rintro e w57 ⟨rfl, hb⟩; refine ⟨_, rfl, ?_⟩; have n0_ := Aside0.mk (blk_below (g := gb140) (by (with_reducible repeat (first | refine blk_drewN ?_ _ | refine blk_drew ?_ | refine blk_alloc ?_ _)); exact BK140.out) hb); have n1_ := Aside0.mk (below_step (by repeat (first | (with_reducible first | exact HB.out | apply below_alloc | apply pw_below_drewN | apply below_drew1 | refine below_set ?_ GE140.out) | exact HB.out)) hb); clear BK140; clear HB; have BK140 := n0_; have HB := n1_; clear n0_ n1_; (try clear hb); (try clear hb2); (try clear hk); (try clear hi); obtain ⟨hcz58_0, hcz58_1, hcz58_2, hcz58_3, hcz58_4, hcz58_5, hcz58_6, hcz58_7, hcz58_8, hcz58_9, hcz58_10, hcz58_11, hcz58_12, hcz58_13, hcz58_14, hcz58_15⟩ := cells16 BK140.out; obtain ⟨hfz58_0, hfz58_1, hfz58_2, hfz58_3, hfz58_4, hfz58_5, hfz58_6, hfz58_7, hfz58_8, hfz58_9, hfz58_10, hfz58_11, hfz58_12, hfz58_13, hfz58_14, hfz58_15⟩ := frozen16 BK140.out))
              refine start_ (n := 28) (S := fun w' => w'.cell? ⟨gb140, 0, none⟩ = some (.int .i64 a0_0) ∧ w'.cell? ⟨gb140, 1, none⟩ = some (.bool a0_1) ∧ w'.cell? ⟨gb140, 2, none⟩ = some (.bool a0_2) ∧ w'.cell? ⟨gb140, 3, none⟩ = some (.bool a0_3) ∧ w'.cell? ⟨gb140, 4, none⟩ = some (.bool a0_4) ∧ w'.cell? ⟨gb140, 5, none⟩ = some (.bool a0_5) ∧ w'.cell? ⟨gb140, 6, none⟩ = some (.bool a0_6) ∧ w'.cell? ⟨gb140, 7, none⟩ = some (.int .i64 a0_7) ∧ w'.cell? ⟨gb140, 8, none⟩ = some (.int .u64 a0_8) ∧ w'.cell? ⟨gb140, 9, none⟩ = some (.int .i64 a0_9) ∧ w'.cell? ⟨gb140, 10, none⟩ = some (.int .u64 a0_10) ∧ w'.cell? ⟨gb140, 11, none⟩ = some (.int .i64 a0_11) ∧ w'.cell? ⟨gb140, 12, none⟩ = some (.int .i64 a0_12) ∧ w'.cell? ⟨gb140, 13, none⟩ = some (.int .i64 a0_13) ∧ w'.cell? ⟨gb140, 14, none⟩ = some (.int .i64 a0_14) ∧ w'.cell? ⟨gb140, 15, none⟩ = some (.int .i64 a0_15)) (ds := []) #[false, false, false, false, false, false, false, false, false, false, false, false, false, false, false, false, false, false, false, false, false, false, false, false, false, false, false, false] (by kernel_rfl) rfl rfl ⟨(blk_cell BK140.out 0).trans rfl, (blk_cell BK140.out 1).trans rfl, (blk_cell BK140.out 2).trans rfl, (blk_cell BK140.out 3).trans rfl, (blk_cell BK140.out 4).trans rfl, (blk_cell BK140.out 5).trans rfl, (blk_cell BK140.out 6).trans rfl, (blk_cell BK140.out 7).trans rfl, (blk_cell BK140.out 8).trans rfl, (blk_cell BK140.out 9).trans rfl, (blk_cell BK140.out 10).trans rfl, (blk_cell BK140.out 11).trans rfl, (blk_cell BK140.out 12).trans rfl, (blk_cell BK140.out 13).trans rfl, (blk_cell BK140.out 14).trans rfl, (blk_cell BK140.out 15).trans rfl⟩ (fun hHeld => ?_); refine with_tabW gangwayref09_Build.tab7 gangwayref09_Build.bits7 (fun HT_ HW_ => ?_)
              generalize hq2_ : World.drew _ = w59 at hHeld ⊢
              have n0_ : Aside0 (w59.heap[gb140]? = some (.cells #[.int .i64 a0_0, .bool a0_1, .bool a0_2, .bool a0_3, .bool a0_4, .bool a0_5, .bool a0_6, .int .i64 a0_7, .int .u64 a0_8, .int .i64 a0_9, .int .u64 a0_10, .int .i64 a0_11, .int .i64 a0_12, .int .i64 a0_13, .int .i64 a0_14, .int .i64 a0_15] 24 (0, 0))) := ⟨by rw [← hq2_]; (with_reducible repeat (first | refine blk_drewN ?_ _ | refine blk_drew ?_ | refine blk_alloc ?_ _)); exact BK140.out⟩
              have n1_ : Aside0 (Below w.heap.size w w59) := ⟨by rw [← hq2_]; repeat (first | (with_reducible exact HB.out) | apply below_drew1 | apply pw_below_drewN | apply below_alloc)⟩
              clear BK140 HB hq2_
              have BK140 := n0_
              have HB := n1_
              clear n0_ n1_
              refine pure_ (i := 0) (N := some 18) (v := ?_) (a' := ?_) #[true, false, false, false, false, false, false, false, false, false, false, false, false, false, false, false, false, false, false, false, false, false, false, false, false, false, false, false] rfl rfl (any_of HT_.out (by kernel_rfl)) (fun _ _ _ h => h) (Or.inl ⟨by rfl, ?_⟩) ?_ ?_
              rotate_left
              ·intro w'
               go_simp
               with_reducible rfl
              rotate_left
              ·simp only [Act.put, List.setIfInBounds_toArray, List.set_cons_zero, List.set_cons_succ, i64_w, i32_w]
               rfl
              refine pure_ (i := 3) (N := some 21) (v := ?_) (a' := ?_) #[true, false, false, true, false, false, false, false, false, false, false, false, false, false, false, false, false, false, false, false, false, false, false, false, false, false, false, false] rfl rfl (any_of HT_.out (by kernel_rfl)) (fun _ _ _ h => h) (Or.inl ⟨by rfl, ?_⟩) ?_ ?_
              rotate_left
              ·intro w'
               go_simp
               with_reducible rfl
              rotate_left
              ·simp only [Act.put, List.setIfInBounds_toArray, List.set_cons_zero, List.set_cons_succ, i64_w, i32_w]
               rfl
              refine pure_ (i := 7) (N := some 25) (v := ?_) (a' := ?_) #[true, false, false, true, false, false, false, true, false, false, false, false, false, false, false, false, false, false, false, false, false, false, false, false, false, false, false, false] rfl rfl (any_of HT_.out (by kernel_rfl)) (fun _ _ _ h => h) (Or.inl ⟨by rfl, ?_⟩) ?_ ?_
              rotate_left
              ·intro w'
               go_simp
               with_reducible rfl
              rotate_left
              ·simp only [Act.put, List.setIfInBounds_toArray, List.set_cons_zero, List.set_cons_succ, i64_w, i32_w]
               rfl
              refine pure_ (i := 11) (N := some 29) (v := ?_) (a' := ?_) #[true, false, false, true, false, false, false, true, false, false, false, true, false, false, false, false, false, false, false, false, false, false, false, false, false, false, false, false] rfl rfl (any_of HT_.out (by kernel_rfl)) (fun _ _ _ h => h) (Or.inl ⟨by rfl, ?_⟩) ?_ ?_
              rotate_left
              ·intro w'
               go_simp
               with_reducible rfl
              rotate_left
              ·simp only [Act.put, List.setIfInBounds_toArray, List.set_cons_zero, List.set_cons_succ, i64_w, i32_w]
               rfl
              refine pure_ (i := 15) (N := some 33) (v := ?_) (a' := ?_) #[true, false, false, true, false, false, false, true, false, false, false, true, false, false, false, true, false, false, false, false, false, false, false, false, false, false, false, false] rfl rfl (any_of HT_.out (by kernel_rfl)) (fun _ _ _ h => h) (Or.inl ⟨by rfl, ?_⟩) ?_ ?_
              rotate_left
              ·intro w'
               go_simp
               with_reducible rfl
              rotate_left
              ·simp only [Act.put, List.setIfInBounds_toArray, List.set_cons_zero, List.set_cons_succ, i64_w, i32_w]
               rfl
              refine pure_ (i := 19) (N := some 37) (v := ?_) (a' := ?_) #[true, false, false, true, false, false, false, true, false, false, false, true, false, false, false, true, false, false, false, true, false, false, false, false, false, false, false, false] rfl rfl (any_of HT_.out (by kernel_rfl)) (fun _ _ _ h => h) (Or.inl ⟨by rfl, ?_⟩) ?_ ?_
              rotate_left
              ·intro w'
               go_simp
               with_reducible rfl
              rotate_left
              ·simp only [Act.put, List.setIfInBounds_toArray, List.set_cons_zero, List.set_cons_succ, i64_w, i32_w]
               rfl
              refine pure_ (i := 23) (N := some 41) (v := ?_) (a' := ?_) #[true, false, false, true, false, false, false, true, false, false, false, true, false, false, false, true, false, false, false, true, false, false, false, true, false, false, false, false] rfl rfl (any_of HT_.out (by kernel_rfl)) (fun _ _ _ h => h) (Or.inl ⟨by rfl, ?_⟩) ?_ ?_
              rotate_left
              ·intro w'
               go_simp
               with_reducible rfl
              rotate_left
              ·simp only [Act.put, List.setIfInBounds_toArray, List.set_cons_zero, List.set_cons_succ, i64_w, i32_w]
               rfl
              refine take_ (i := 1) (N := some 19) (v := ?_) (a' := ?_) #[true, true, false, true, false, false, false, true, false, false, false, true, false, false, false, true, false, false, false, true, false, false, false, true, false, false, false, false] rfl rfl (take_ofW HT_.out HW_.out (by kernel_rfl)) (fun _ _ _ h => h) (Or.inl ⟨by rfl, ?_⟩) hHeld ?_ ?_
              rotate_left
              ·rintro w' ⟨s0, s1, s2, s3, s4, s5, s6, s7, s8, s9, s10, s11, s12, s13, s14, s15⟩
               go_simp
               with_reducible rfl
              rotate_left
              ·simp only [Act.put, List.setIfInBounds_toArray, List.set_cons_zero, List.set_cons_succ, i64_w, i32_w]
               rfl
              refine take_ (i := 4) (N := some 22) (v := ?_) (a' := ?_) #[true, true, false, true, true, false, false, true, false, false, false, true, false, false, false, true, false, false, false, true, false, false, false, true, false, false, false, false] rfl rfl (take_ofW HT_.out HW_.out (by kernel_rfl)) (fun _ _ _ h => h) (Or.inl ⟨by rfl, ?_⟩) hHeld ?_ ?_
              rotate_left
              ·rintro w' ⟨s0, s1, s2, s3, s4, s5, s6, s7, s8, s9, s10, s11, s12, s13, s14, s15⟩
               go_simp
               with_reducible rfl
              rotate_left
              ·simp only [Act.put, List.setIfInBounds_toArray, List.set_cons_zero, List.set_cons_succ, i64_w, i32_w]
               rfl
              refine take_ (i := 8) (N := some 26) (v := ?_) (a' := ?_) #[true, true, false, true, true, false, false, true, true, false, false, true, false, false, false, true, false, false, false, true, false, false, false, true, false, false, false, false] rfl rfl (take_ofW HT_.out HW_.out (by kernel_rfl)) (fun _ _ _ h => h) (Or.inl ⟨by rfl, ?_⟩) hHeld ?_ ?_
              rotate_left
              ·rintro w' ⟨s0, s1, s2, s3, s4, s5, s6, s7, s8, s9, s10, s11, s12, s13, s14, s15⟩
               go_simp
               with_reducible rfl
              rotate_left
              ·simp only [Act.put, List.setIfInBounds_toArray, List.set_cons_zero, List.set_cons_succ, i64_w, i32_w]
               rfl
              refine pure_ (i := 9) (N := some 27) (v := ?_) (a' := ?_) #[true, true, false, true, true, false, false, true, true, true, false, true, false, false, false, true, false, false, false, true, false, false, false, true, false, false, false, false] rfl rfl (any_of HT_.out (by kernel_rfl)) (fun _ _ _ h => h) (Or.inl ⟨by rfl, ?_⟩) ?_ ?_
              rotate_left
              ·intro w'
               go_simp
               with_reducible rfl
              rotate_left
              ·simp only [Act.put, List.setIfInBounds_toArray, List.set_cons_zero, List.set_cons_succ, i64_w, i32_w]
               rfl
              refine take_ (i := 12) (N := some 30) (v := ?_) (a' := ?_) #[true, true, false, true, true, false, false, true, true, true, false, true, true, false, false, true, false, false, false, true, false, false, false, true, false, false, false, false] rfl rfl (take_ofW HT_.out HW_.out (by kernel_rfl)) (fun _ _ _ h => h) (Or.inl ⟨by rfl, ?_⟩) hHeld ?_ ?_
              rotate_left
              ·rintro w' ⟨s0, s1, s2, s3, s4, s5, s6, s7, s8, s9, s10, s11, s12, s13, s14, s15⟩
               go_simp
               with_reducible rfl
              rotate_left
              ·simp only [Act.put, List.setIfInBounds_toArray, List.set_cons_zero, List.set_cons_succ, i64_w, i32_w]
               rfl
              refine take_ (i := 16) (N := some 34) (v := ?_) (a' := ?_) #[true, true, false, true, true, false, false, true, true, true, false, true, true, false, false, true, true, false, false, true, false, false, false, true, false, false, false, false] rfl rfl (take_ofW HT_.out HW_.out (by kernel_rfl)) (fun _ _ _ h => h) (Or.inl ⟨by rfl, ?_⟩) hHeld ?_ ?_
              rotate_left
              ·rintro w' ⟨s0, s1, s2, s3, s4, s5, s6, s7, s8, s9, s10, s11, s12, s13, s14, s15⟩
               go_simp
               with_reducible rfl
              rotate_left
              ·simp only [Act.put, List.setIfInBounds_toArray, List.set_cons_zero, List.set_cons_succ, i64_w, i32_w]
               rfl
              refine take_ (i := 20) (N := some 38) (v := ?_) (a' := ?_) #[true, true, false, true, true, false, false, true, true, true, false, true, true, false, false, true, true, false, false, true, true, false, false, true, false, false, false, false] rfl rfl (take_ofW HT_.out HW_.out (by kernel_rfl)) (fun _ _ _ h => h) (Or.inl ⟨by rfl, ?_⟩) hHeld ?_ ?_
              rotate_left
              ·rintro w' ⟨s0, s1, s2, s3, s4, s5, s6, s7, s8, s9, s10, s11, s12, s13, s14, s15⟩
               go_simp
               with_reducible rfl
              rotate_left
              ·simp only [Act.put, List.setIfInBounds_toArray, List.set_cons_zero, List.set_cons_succ, i64_w, i32_w]
               rfl
              refine take_ (i := 24) (N := some 42) (v := ?_) (a' := ?_) #[true, true, false, true, true, false, false, true, true, true, false, true, true, false, false, true, true, false, false, true, true, false, false, true, true, false, false, false] rfl rfl (take_ofW HT_.out HW_.out (by kernel_rfl)) (fun _ _ _ h => h) (Or.inl ⟨by rfl, ?_⟩) hHeld ?_ ?_
              rotate_left
              ·rintro w' ⟨s0, s1, s2, s3, s4, s5, s6, s7, s8, s9, s10, s11, s12, s13, s14, s15⟩
               go_simp
               with_reducible rfl
              rotate_left
              ·simp only [Act.put, List.setIfInBounds_toArray, List.set_cons_zero, List.set_cons_succ, i64_w, i32_w]
               rfl
              refine one_ (i := 2) (N := some 20) #[true, true, true, true, true, false, false, true, true, true, false, true, true, false, false, true, true, false, false, true, true, false, false, true, true, false, false, false] rfl rfl (one_of HT_.out (by kernel_rfl)) (by decide) (fun K hK => ?_)
              refine goes_ Tryd.func21 (by kernel_rfl) rfl #[.bool a0_1, .int .i64 1] (by first | rfl | exact wanted_on rfl rfl rfl (by first | rfl | (simp [*]; done) | (simp [*, IntKind.wrap_u32]; done))) rfl rfl (by (try simp only [List.map_toArray, List.map_cons, List.map_nil]); first | done | rfl | (simp only [List.length_drop, List.length_take]; rfl)) ?_
              with_reducible refine (gangwayref09_bit.calls a0_1 1 t142 _ A10.out).mono ?_
              rintro e w' ⟨rfl, ⟨nd, rfl⟩⟩
              refine ⟨_, rfl, ?_⟩
              refine hK.out _ _ ⟨(blk_cell BK140.out 0).trans rfl, (blk_cell BK140.out 1).trans rfl, (blk_cell BK140.out 2).trans rfl, (blk_cell BK140.out 3).trans rfl, (blk_cell BK140.out 4).trans rfl, (blk_cell BK140.out 5).trans rfl, (blk_cell BK140.out 6).trans rfl, (blk_cell BK140.out 7).trans rfl, (blk_cell BK140.out 8).trans rfl, (blk_cell BK140.out 9).trans rfl, (blk_cell BK140.out 10).trans rfl, (blk_cell BK140.out 11).trans rfl, (blk_cell BK140.out 12).trans rfl, (blk_cell BK140.out 13).trans rfl, (blk_cell BK140.out 14).trans rfl, (blk_cell BK140.out 15).trans rfl⟩ (fun hHeld => ?_)
              clear hK K
              refine norm_ (a' := ?_) ?_ ?_
              rotate_left
              ·show Act.put _ (some 20) _ = _
               simp only [Act.put, List.setIfInBounds_toArray, List.set_cons_zero, List.set_cons_succ, i64_w, i32_w]
               rfl
              refine one_ (i := 5) (N := some 23) #[true, true, true, true, true, true, false, true, true, true, false, true, true, false, false, true, true, false, false, true, true, false, false, true, true, false, false, false] rfl rfl (one_of HT_.out (by kernel_rfl)) (by decide) (fun K hK => ?_)
              refine goes_ Tryd.func21 (by kernel_rfl) rfl #[.bool a0_2, .int .i64 2] (by first | rfl | exact wanted_on rfl rfl rfl (by first | rfl | (simp [*]; done) | (simp [*, IntKind.wrap_u32]; done))) rfl rfl (by (try simp only [List.map_toArray, List.map_cons, List.map_nil]); first | done | rfl | (simp only [List.length_drop, List.length_take]; rfl)) ?_
              with_reducible refine (gangwayref09_bit.calls a0_2 2 t143 _ A11.out).mono ?_
              rintro e w' ⟨rfl, ⟨nd, rfl⟩⟩
              refine ⟨_, rfl, ?_⟩
              refine hK.out _ _ ⟨(blk_cell BK140.out 0).trans rfl, (blk_cell BK140.out 1).trans rfl, (blk_cell BK140.out 2).trans rfl, (blk_cell BK140.out 3).trans rfl, (blk_cell BK140.out 4).trans rfl, (blk_cell BK140.out 5).trans rfl, (blk_cell BK140.out 6).trans rfl, (blk_cell BK140.out 7).trans rfl, (blk_cell BK140.out 8).trans rfl, (blk_cell BK140.out 9).trans rfl, (blk_cell BK140.out 10).trans rfl, (blk_cell BK140.out 11).trans rfl, (blk_cell BK140.out 12).trans rfl, (blk_cell BK140.out 13).trans rfl, (blk_cell BK140.out 14).trans rfl, (blk_cell BK140.out 15).trans rfl⟩ (fun hHeld => ?_)
              clear hK K
              refine norm_ (a' := ?_) ?_ ?_
              rotate_left
              ·show Act.put _ (some 23) _ = _
               simp only [Act.put, List.setIfInBounds_toArray, List.set_cons_zero, List.set_cons_succ, i64_w, i32_w]
               rfl
              refine pure_ (i := 6) (N := some 24) (v := ?_) (a' := ?_) #[true, true, true, true, true, true, true, true, true, true, false, true, true, false, false, true, true, false, false, true, true, false, false, true, true, false, false, false] rfl rfl (any_of HT_.out (by kernel_rfl)) (fun _ _ _ h => h) (Or.inl ⟨by rfl, ?_⟩) ?_ ?_
              rotate_left
              ·intro w'
               go_simp
               with_reducible rfl
              rotate_left
              ·simp only [Act.put, List.setIfInBounds_toArray, List.set_cons_zero, List.set_cons_succ, i64_w, i32_w]
               rfl
              refine pure_ (i := 10) (N := some 28) (v := ?_) (a' := ?_) #[true, true, true, true, true, true, true, true, true, true, true, true, true, false, false, true, true, false, false, true, true, false, false, true, true, false, false, false] rfl rfl (any_of HT_.out (by kernel_rfl)) (fun _ _ _ h => h) (Or.inl ⟨by rfl, ?_⟩) ?_ ?_
              rotate_left
              ·intro w'
               go_simp
               with_reducible rfl
              rotate_left
              ·simp only [Act.put, List.setIfInBounds_toArray, List.set_cons_zero, List.set_cons_succ, i64_w, i32_w]
               rfl
              refine one_ (i := 13) (N := some 31) #[true, true, true, true, true, true, true, true, true, true, true, true, true, true, false, true, true, false, false, true, true, false, false, true, true, false, false, false] rfl rfl (one_of HT_.out (by kernel_rfl)) (by decide) (fun K hK => ?_)
              refine goes_ Tryd.func21 (by kernel_rfl) rfl #[.bool a0_3, .int .i64 16] (by first | rfl | exact wanted_on rfl rfl rfl (by first | rfl | (simp [*]; done) | (simp [*, IntKind.wrap_u32]; done))) rfl rfl (by (try simp only [List.map_toArray, List.map_cons, List.map_nil]); first | done | rfl | (simp only [List.length_drop, List.length_take]; rfl)) ?_
              with_reducible refine (gangwayref09_bit.calls a0_3 16 t144 _ A12.out).mono ?_
              rintro e w' ⟨rfl, ⟨nd, rfl⟩⟩
              refine ⟨_, rfl, ?_⟩
              refine hK.out _ _ ⟨(blk_cell BK140.out 0).trans rfl, (blk_cell BK140.out 1).trans rfl, (blk_cell BK140.out 2).trans rfl, (blk_cell BK140.out 3).trans rfl, (blk_cell BK140.out 4).trans rfl, (blk_cell BK140.out 5).trans rfl, (blk_cell BK140.out 6).trans rfl, (blk_cell BK140.out 7).trans rfl, (blk_cell BK140.out 8).trans rfl, (blk_cell BK140.out 9).trans rfl, (blk_cell BK140.out 10).trans rfl, (blk_cell BK140.out 11).trans rfl, (blk_cell BK140.out 12).trans rfl, (blk_cell BK140.out 13).trans rfl, (blk_cell BK140.out 14).trans rfl, (blk_cell BK140.out 15).trans rfl⟩ (fun hHeld => ?_)
              clear hK K
              refine norm_ (a' := ?_) ?_ ?_
              rotate_left
              ·show Act.put _ (some 31) _ = _
               simp only [Act.put, List.setIfInBounds_toArray, List.set_cons_zero, List.set_cons_succ, i64_w, i32_w]
               rfl
              refine pure_ (i := 14) (N := some 32) (v := ?_) (a' := ?_) #[true, true, true, true, true, true, true, true, true, true, true, true, true, true, true, true, true, false, false, true, true, false, false, true, true, false, false, false] rfl rfl (any_of HT_.out (by kernel_rfl)) (fun _ _ _ h => h) (Or.inl ⟨by rfl, ?_⟩) ?_ ?_
              rotate_left
              ·intro w'
               go_simp
               with_reducible rfl
              rotate_left
              ·simp only [Act.put, List.setIfInBounds_toArray, List.set_cons_zero, List.set_cons_succ, i64_w, i32_w]
               rfl
              refine one_ (i := 17) (N := some 35) #[true, true, true, true, true, true, true, true, true, true, true, true, true, true, true, true, true, true, false, true, true, false, false, true, true, false, false, false] rfl rfl (one_of HT_.out (by kernel_rfl)) (by decide) (fun K hK => ?_)
              refine goes_ Tryd.func21 (by kernel_rfl) rfl #[.bool a0_4, .int .i64 32] (by first | rfl | exact wanted_on rfl rfl rfl (by first | rfl | (simp [*]; done) | (simp [*, IntKind.wrap_u32]; done))) rfl rfl (by (try simp only [List.map_toArray, List.map_cons, List.map_nil]); first | done | rfl | (simp only [List.length_drop, List.length_take]; rfl)) ?_
              with_reducible refine (gangwayref09_bit.calls a0_4 32 t145 _ A13.out).mono ?_
              rintro e w' ⟨rfl, ⟨nd, rfl⟩⟩
              refine ⟨_, rfl, ?_⟩
              refine hK.out _ _ ⟨(blk_cell BK140.out 0).trans rfl, (blk_cell BK140.out 1).trans rfl, (blk_cell BK140.out 2).trans rfl, (blk_cell BK140.out 3).trans rfl, (blk_cell BK140.out 4).trans rfl, (blk_cell BK140.out 5).trans rfl, (blk_cell BK140.out 6).trans rfl, (blk_cell BK140.out 7).trans rfl, (blk_cell BK140.out 8).trans rfl, (blk_cell BK140.out 9).trans rfl, (blk_cell BK140.out 10).trans rfl, (blk_cell BK140.out 11).trans rfl, (blk_cell BK140.out 12).trans rfl, (blk_cell BK140.out 13).trans rfl, (blk_cell BK140.out 14).trans rfl, (blk_cell BK140.out 15).trans rfl⟩ (fun hHeld => ?_)
              clear hK K
              refine norm_ (a' := ?_) ?_ ?_
              rotate_left
              ·show Act.put _ (some 35) _ = _
               simp only [Act.put, List.setIfInBounds_toArray, List.set_cons_zero, List.set_cons_succ, i64_w, i32_w]
               rfl
              refine pure_ (i := 18) (N := some 36) (v := ?_) (a' := ?_) #[true, true, true, true, true, true, true, true, true, true, true, true, true, true, true, true, true, true, true, true, true, false, false, true, true, false, false, false] rfl rfl (any_of HT_.out (by kernel_rfl)) (fun _ _ _ h => h) (Or.inl ⟨by rfl, ?_⟩) ?_ ?_
              rotate_left
              ·intro w'
               go_simp
               with_reducible rfl
              rotate_left
              ·simp only [Act.put, List.setIfInBounds_toArray, List.set_cons_zero, List.set_cons_succ, i64_w, i32_w]
               rfl
              refine one_ (i := 21) (N := some 39) #[true, true, true, true, true, true, true, true, true, true, true, true, true, true, true, true, true, true, true, true, true, true, false, true, true, false, false, false] rfl rfl (one_of HT_.out (by kernel_rfl)) (by decide) (fun K hK => ?_)
              refine goes_ Tryd.func21 (by kernel_rfl) rfl #[.bool a0_5, .int .i64 64] (by first | rfl | exact wanted_on rfl rfl rfl (by first | rfl | (simp [*]; done) | (simp [*, IntKind.wrap_u32]; done))) rfl rfl (by (try simp only [List.map_toArray, List.map_cons, List.map_nil]); first | done | rfl | (simp only [List.length_drop, List.length_take]; rfl)) ?_
              with_reducible refine (gangwayref09_bit.calls a0_5 64 t146 _ A14.out).mono ?_
              rintro e w' ⟨rfl, ⟨nd, rfl⟩⟩
              refine ⟨_, rfl, ?_⟩
              refine hK.out _ _ ⟨(blk_cell BK140.out 0).trans rfl, (blk_cell BK140.out 1).trans rfl, (blk_cell BK140.out 2).trans rfl, (blk_cell BK140.out 3).trans rfl, (blk_cell BK140.out 4).trans rfl, (blk_cell BK140.out 5).trans rfl, (blk_cell BK140.out 6).trans rfl, (blk_cell BK140.out 7).trans rfl, (blk_cell BK140.out 8).trans rfl, (blk_cell BK140.out 9).trans rfl, (blk_cell BK140.out 10).trans rfl, (blk_cell BK140.out 11).trans rfl, (blk_cell BK140.out 12).trans rfl, (blk_cell BK140.out 13).trans rfl, (blk_cell BK140.out 14).trans rfl, (blk_cell BK140.out 15).trans rfl⟩ (fun hHeld => ?_)
              clear hK K
              refine norm_ (a' := ?_) ?_ ?_
              rotate_left
              ·show Act.put _ (some 39) _ = _
               simp only [Act.put, List.setIfInBounds_toArray, List.set_cons_zero, List.set_cons_succ, i64_w, i32_w]
               rfl
              refine pure_ (i := 22) (N := some 40) (v := ?_) (a' := ?_) #[true, true, true, true, true, true, true, true, true, true, true, true, true, true, true, true, true, true, true, true, true, true, true, true, true, false, false, false] rfl rfl (any_of HT_.out (by kernel_rfl)) (fun _ _ _ h => h) (Or.inl ⟨by rfl, ?_⟩) ?_ ?_
              rotate_left
              ·intro w'
               go_simp
               with_reducible rfl
              rotate_left
              ·simp only [Act.put, List.setIfInBounds_toArray, List.set_cons_zero, List.set_cons_succ, i64_w, i32_w]
               rfl
              refine one_ (i := 25) (N := some 43) #[true, true, true, true, true, true, true, true, true, true, true, true, true, true, true, true, true, true, true, true, true, true, true, true, true, true, false, false] rfl rfl (one_of HT_.out (by kernel_rfl)) (by decide) (fun K hK => ?_)
              refine goes_ Tryd.func21 (by kernel_rfl) rfl #[.bool a0_6, .int .i64 128] (by first | rfl | exact wanted_on rfl rfl rfl (by first | rfl | (simp [*]; done) | (simp [*, IntKind.wrap_u32]; done))) rfl rfl (by (try simp only [List.map_toArray, List.map_cons, List.map_nil]); first | done | rfl | (simp only [List.length_drop, List.length_take]; rfl)) ?_
              with_reducible refine (gangwayref09_bit.calls a0_6 128 t147 _ A15.out).mono ?_
              rintro e w' ⟨rfl, ⟨nd, rfl⟩⟩
              refine ⟨_, rfl, ?_⟩
              refine hK.out _ _ ⟨(blk_cell BK140.out 0).trans rfl, (blk_cell BK140.out 1).trans rfl, (blk_cell BK140.out 2).trans rfl, (blk_cell BK140.out 3).trans rfl, (blk_cell BK140.out 4).trans rfl, (blk_cell BK140.out 5).trans rfl, (blk_cell BK140.out 6).trans rfl, (blk_cell BK140.out 7).trans rfl, (blk_cell BK140.out 8).trans rfl, (blk_cell BK140.out 9).trans rfl, (blk_cell BK140.out 10).trans rfl, (blk_cell BK140.out 11).trans rfl, (blk_cell BK140.out 12).trans rfl, (blk_cell BK140.out 13).trans rfl, (blk_cell BK140.out 14).trans rfl, (blk_cell BK140.out 15).trans rfl⟩ (fun hHeld => ?_)
              clear hK K
              refine norm_ (a' := ?_) ?_ ?_
              rotate_left
              ·show Act.put _ (some 43) _ = _
               simp only [Act.put, List.setIfInBounds_toArray, List.set_cons_zero, List.set_cons_succ, i64_w, i32_w]
               rfl
              refine pure_ (i := 26) (N := some 44) (v := ?_) (a' := ?_) #[true, true, true, true, true, true, true, true, true, true, true, true, true, true, true, true, true, true, true, true, true, true, true, true, true, true, true, false] rfl rfl (any_of HT_.out (by kernel_rfl)) (fun _ _ _ h => h) (Or.inl ⟨by rfl, ?_⟩) ?_ ?_
              rotate_left
              ·intro w'
               go_simp
               with_reducible rfl
              rotate_left
              ·simp only [Act.put, List.setIfInBounds_toArray, List.set_cons_zero, List.set_cons_succ, i64_w, i32_w]
               rfl
              refine pure_ (i := 27) (N := some 6) (v := ?_) (a' := ?_) #[true, true, true, true, true, true, true, true, true, true, true, true, true, true, true, true, true, true, true, true, true, true, true, true, true, true, true, true] rfl rfl (any_of HT_.out (by kernel_rfl)) (fun _ _ _ h => h) (Or.inl ⟨by rfl, ?_⟩) ?_ ?_
              rotate_left
              ·intro w'
               go_simp
               with_reducible rfl
              rotate_left
              ·simp only [Act.put, List.setIfInBounds_toArray, List.set_cons_zero, List.set_cons_succ, i64_w, i32_w]
               rfl
              refine done_ (done_of HT_.out (by kernel_rfl)) ?_
              try go_wp2_with (first | ((with_reducible refine gate_st (ty := 24) rfl ?_); (try (with_reducible refine gate_gd rfl ?_; refine gate_guard (by first | rfl | exact wanted_on rfl rfl rfl (by first | rfl | (simp [*]; done))) ?_; dsimp only)); refine storeC16 rfl rfl rfl rfl rfl (by repeat (first | (with_reducible apply blk_far; case hp => assumption) | (with_reducible apply blk_set) | (with_reducible refine blk_drewN ?_ _) | (with_reducible refine blk_drew ?_) | (with_reducible refine blk_alloc ?_ _) | (first | with_reducible exact BK140.out))) (by first | (simp only [List.setIfInBounds_toArray, List.set_cons_zero, List.set_cons_succ] <;> rfl) | rfl) (by kernel_rfl) rfl ?_) | ((with_reducible refine gate_ld (ty := 24) rfl ?_); (try (with_reducible refine gate_gd rfl ?_; refine gate_guard (by first | rfl | exact wanted_on rfl rfl rfl (by first | rfl | (simp [*]; done))) ?_; dsimp only)); refine load_st rfl rfl rfl (by repeat (first | (with_reducible apply blk_far; case hp => assumption) | (with_reducible apply blk_set) | (with_reducible refine blk_drewN ?_ _) | (with_reducible refine blk_drew ?_) | (with_reducible refine blk_alloc ?_ _) | (first | with_reducible exact BK140.out))) (by first | (simp only [List.setIfInBounds_toArray, List.set_cons_zero, List.set_cons_succ] <;> rfl) | rfl) Tryd.underlying24 rfl (by kernel_rfl) ?_; (try simp only [Act.put, List.setIfInBounds_toArray, List.set_cons_zero, List.set_cons_succ])) | go_in)
              (try (rw [drewN_self w59]; generalize hq_ : World.drewN w59 _ = w59; have n0_ : Aside0 (w59.heap[gb140]? = some (.cells #[.int .i64 a0_0, .bool a0_1, .bool a0_2, .bool a0_3, .bool a0_4, .bool a0_5, .bool a0_6, .int .i64 a0_7, .int .u64 a0_8, .int .i64 a0_9, .int .u64 a0_10, .int .i64 a0_11, .int .i64 a0_12, .int .i64 a0_13, .int .i64 a0_14, .int .i64 a0_15] 24 (0, 0))) := ⟨by rw [← hq_]; exact (by (with_reducible repeat (first | refine blk_drewN ?_ _ | refine blk_drew ?_ | refine blk_alloc ?_ _)); exact BK140.out)⟩; have n1_ : Aside0 (Below w.heap.size w w59) := ⟨by rw [← hq_]; exact (by repeat (first | (with_reducible first | exact HB.out | apply below_alloc | apply pw_below_drewN | apply below_drew1 | refine below_set ?_ GE140.out) | exact HB.out))⟩; clear BK140 HB hq_; have BK140 := n0_; have HB := n1_; clear n0_ n1_))
              refine start_ (n := 42) (S := fun w' => w'.cell? ⟨gb140, 0, none⟩ = some (.int .i64 a0_0) ∧ w'.cell? ⟨gb140, 1, none⟩ = some (.bool a0_1) ∧ w'.cell? ⟨gb140, 2, none⟩ = some (.bool a0_2) ∧ w'.cell? ⟨gb140, 3, none⟩ = some (.bool a0_3) ∧ w'.cell? ⟨gb140, 4, none⟩ = some (.bool a0_4) ∧ w'.cell? ⟨gb140, 5, none⟩ = some (.bool a0_5) ∧ w'.cell? ⟨gb140, 6, none⟩ = some (.bool a0_6) ∧ w'.cell? ⟨gb140, 7, none⟩ = some (.int .i64 a0_7) ∧ w'.cell? ⟨gb140, 8, none⟩ = some (.int .u64 a0_8) ∧ w'.cell? ⟨gb140, 9, none⟩ = some (.int .i64 a0_9) ∧ w'.cell? ⟨gb140, 10, none⟩ = some (.int .u64 a0_10) ∧ w'.cell? ⟨gb140, 11, none⟩ = some (.int .i64 a0_11) ∧ w'.cell? ⟨gb140, 12, none⟩ = some (.int .i64 a0_12) ∧ w'.cell? ⟨gb140, 13, none⟩ = some (.int .i64 a0_13) ∧ w'.cell? ⟨gb140, 14, none⟩ = some (.int .i64 a0_14) ∧ w'.cell? ⟨gb140, 15, none⟩ = some (.int .i64 a0_15)) (ds := []) #[false, false, false, false, false, false, false, false, false, false, false, false, false, false, false, false, false, false, false, false, false, false, false, false, false, false, false, false, false, false, false, false, false, false, false, false, false, false, false, false, false, false] (by kernel_rfl) rfl rfl ⟨(blk_cell BK140.out 0).trans rfl, (blk_cell BK140.out 1).trans rfl, (blk_cell BK140.out 2).trans rfl, (blk_cell BK140.out 3).trans rfl, (blk_cell BK140.out 4).trans rfl, (blk_cell BK140.out 5).trans rfl, (blk_cell BK140.out 6).trans rfl, (blk_cell BK140.out 7).trans rfl, (blk_cell BK140.out 8).trans rfl, (blk_cell BK140.out 9).trans rfl, (blk_cell BK140.out 10).trans rfl, (blk_cell BK140.out 11).trans rfl, (blk_cell BK140.out 12).trans rfl, (blk_cell BK140.out 13).trans rfl, (blk_cell BK140.out 14).trans rfl, (blk_cell BK140.out 15).trans rfl⟩ (fun hHeld => ?_); refine with_tabW gangwayref09_Build.tab8 gangwayref09_Build.bits8 (fun HT_ HW_ => ?_)
              generalize hq2_ : World.drew _ = w60 at hHeld ⊢
              have n0_ : Aside0 (w60.heap[gb140]? = some (.cells #[.int .i64 a0_0, .bool a0_1, .bool a0_2, .bool a0_3, .bool a0_4, .bool a0_5, .bool a0_6, .int .i64 a0_7, .int .u64 a0_8, .int .i64 a0_9, .int .u64 a0_10, .int .i64 a0_11, .int .i64 a0_12, .int .i64 a0_13, .int .i64 a0_14, .int .i64 a0_15] 24 (0, 0))) := ⟨by rw [← hq2_]; (with_reducible repeat (first | refine blk_drewN ?_ _ | refine blk_drew ?_ | refine blk_alloc ?_ _)); exact BK140.out⟩
              have n1_ : Aside0 (Below w.heap.size w w60) := ⟨by rw [← hq2_]; repeat (first | (with_reducible exact HB.out) | apply below_drew1 | apply pw_below_drewN | apply below_alloc)⟩
              clear BK140 HB hq2_
              have BK140 := n0_
              have HB := n1_
              clear n0_ n1_
              refine pure_ (i := 0) (N := some 45) (v := ?_) (a' := ?_) #[true, false, false, false, false, false, false, false, false, false, false, false, false, false, false, false, false, false, false, false, false, false, false, false, false, false, false, false, false, false, false, false, false, false, false, false, false, false, false, false, false, false] rfl rfl (any_of HT_.out (by kernel_rfl)) (fun _ _ _ h => h) (Or.inl ⟨by rfl, ?_⟩) ?_ ?_
              rotate_left
              ·intro w'
               go_simp
               with_reducible rfl
              rotate_left
              ·simp only [Act.put, List.setIfInBounds_toArray, List.set_cons_zero, List.set_cons_succ, i64_w, i32_w]
               rfl
              refine pure_ (i := 1) (N := some 46) (v := ?_) (a' := ?_) #[true, true, false, false, false, false, false, false, false, false, false, false, false, false, false, false, false, false, false, false, false, false, false, false, false, false, false, false, false, false, false, false, false, false, false, false, false, false, false, false, false, false] rfl rfl (any_of HT_.out (by kernel_rfl)) (fun _ _ _ h => h) (Or.inl ⟨by rfl, ?_⟩) ?_ ?_
              rotate_left
              ·intro w'
               go_simp
               with_reducible rfl
              rotate_left
              ·simp only [Act.put, List.setIfInBounds_toArray, List.set_cons_zero, List.set_cons_succ, i64_w, i32_w]
               rfl
              refine pure_ (i := 3) (N := some 48) (v := ?_) (a' := ?_) #[true, true, false, true, false, false, false, false, false, false, false, false, false, false, false, false, false, false, false, false, false, false, false, false, false, false, false, false, false, false, false, false, false, false, false, false, false, false, false, false, false, false] rfl rfl (any_of HT_.out (by kernel_rfl)) (fun _ _ _ h => h) (Or.inl ⟨by rfl, ?_⟩) ?_ ?_
              rotate_left
              ·intro w'
               go_simp
               with_reducible rfl
              rotate_left
              ·simp only [Act.put, List.setIfInBounds_toArray, List.set_cons_zero, List.set_cons_succ, i64_w, i32_w]
               rfl
              refine pure_ (i := 7) (N := some 52) (v := ?_) (a' := ?_) #[true, true, false, true, false, false, false, true, false, false, false, false, false, false, false, false, false, false, false, false, false, false, false, false, false, false, false, false, false, false, false, false, false, false, false, false, false, false, false, false, false, false] rfl rfl (any_of HT_.out (by kernel_rfl)) (fun _ _ _ h => h) (Or.inl ⟨by rfl, ?_⟩) ?_ ?_
              rotate_left
              ·intro w'
               go_simp
               with_reducible rfl
              rotate_left
              ·simp only [Act.put, List.setIfInBounds_toArray, List.set_cons_zero, List.set_cons_succ, i64_w, i32_w]
               rfl
              refine pure_ (i := 12) (N := some 57) (v := ?_) (a' := ?_) #[true, true, false, true, false, false, false, true, false, false, false, false, true, false, false, false, false, false, false, false, false, false, false, false, false, false, false, false, false, false, false, false, false, false, false, false, false, false, false, false, false, false] rfl rfl (any_of HT_.out (by kernel_rfl)) (fun _ _ _ h => h) (Or.inl ⟨by rfl, ?_⟩) ?_ ?_
              rotate_left
              ·intro w'
               go_simp
               with_reducible rfl
              rotate_left
              ·simp only [Act.put, List.setIfInBounds_toArray, List.set_cons_zero, List.set_cons_succ, i64_w, i32_w]
               rfl
              refine pure_ (i := 16) (N := some 61) (v := ?_) (a' := ?_) #[true, true, false, true, false, false, false, true, false, false, false, false, true, false, false, false, true, false, false, false, false, false, false, false, false, false, false, false, false, false, false, false, false, false, false, false, false, false, false, false, false, false] rfl rfl (any_of HT_.out (by kernel_rfl)) (fun _ _ _ h => h) (Or.inl ⟨by rfl, ?_⟩) ?_ ?_
              rotate_left
              ·intro w'
               go_simp
               with_reducible rfl
              rotate_left
              ·simp only [Act.put, List.setIfInBounds_toArray, List.set_cons_zero, List.set_cons_succ, i64_w, i32_w]
               rfl
              refine pure_ (i := 21) (N := some 66) (v := ?_) (a' := ?_) #[true, true, false, true, false, false, false, true, false, false, false, false, true, false, false, false, true, false, false, false, false, true, false, false, false, false, false, false, false, false, false, false, false, false, false, false, false, false, false, false, false, false] rfl rfl (any_of HT_.out (by kernel_rfl)) (fun _ _ _ h => h) (Or.inl ⟨by rfl, ?_⟩) ?_ ?_
              rotate_left
              ·intro w'
               go_simp
               with_reducible rfl
              rotate_left
              ·simp only [Act.put, List.setIfInBounds_toArray, List.set_cons_zero, List.set_cons_succ, i64_w, i32_w]
               rfl
              refine pure_ (i := 26) (N := some 71) (v := ?_) (a' := ?_) #[true, true, false, true, false, false, false, true, false, false, false, false, true, false, false, false, true, false, false, false, false, true, false, false, false, false, true, false, false, false, false, false, false, false, false, false, false, false, false, false, false, false] rfl rfl (any_of HT_.out (by kernel_rfl)) (fun _ _ _ h => h) (Or.inl ⟨by rfl, ?_⟩) ?_ ?_
              rotate_left
              ·intro w'
               go_simp
               with_reducible rfl
              rotate_left
              ·simp only [Act.put, List.setIfInBounds_toArray, List.set_cons_zero, List.set_cons_succ, i64_w, i32_w]
               rfl
              refine pure_ (i := 31) (N := some 76) (v := ?_) (a' := ?_) #[true, true, false, true, false, false, false, true, false, false, false, false, true, false, false, false, true, false, false, false, false, true, false, false, false, false, true, false, false, false, false, true, false, false, false, false, false, false, false, false, false, false] rfl rfl (any_of HT_.out (by kernel_rfl)) (fun _ _ _ h => h) (Or.inl ⟨by rfl, ?_⟩) ?_ ?_
              rotate_left
              ·intro w'
               go_simp
               with_reducible rfl
              rotate_left
              ·simp only [Act.put, List.setIfInBounds_toArray, List.set_cons_zero, List.set_cons_succ, i64_w, i32_w]
               rfl
              refine pure_ (i := 36) (N := some 81) (v := ?_) (a' := ?_) #[true, true, false, true, false, false, false, true, false, false, false, false, true, false, false, false, true, false, false, false, false, true, false, false, false, false, true, false, false, false, false, true, false, false, false, false, true, false, false, false, false, false] rfl rfl (any_of HT_.out (by kernel_rfl)) (fun _ _ _ h => h) (Or.inl ⟨by rfl, ?_⟩) ?_ ?_
              rotate_left
              ·intro w'
               go_simp
               with_reducible rfl
              rotate_left
              ·simp only [Act.put, List.setIfInBounds_toArray, List.set_cons_zero, List.set_cons_succ, i64_w, i32_w]
               rfl
              refine take_ (i := 4) (N := some 49) (v := ?_) (a' := ?_) #[true, true, false, true, true, false, false, true, false, false, false, false, true, false, false, false, true, false, false, false, false, true, false, false, false, false, true, false, false, false, false, true, false, false, false, false, true, false, false, false, false, false] rfl rfl (take_ofW HT_.out HW_.out (by kernel_rfl)) (fun _ _ _ h => h) (Or.inl ⟨by rfl, ?_⟩) hHeld ?_ ?_
              rotate_left
              ·rintro w' ⟨s0, s1, s2, s3, s4, s5, s6, s7, s8, s9, s10, s11, s12, s13, s14, s15⟩
               go_simp
               with_reducible rfl
              rotate_left
              ·simp only [Act.put, List.setIfInBounds_toArray, List.set_cons_zero, List.set_cons_succ, i64_w, i32_w]
               rfl
              refine take_ (i := 8) (N := some 53) (v := ?_) (a' := ?_) #[true, true, false, true, true, false, false, true, true, false, false, false, true, false, false, false, true, false, false, false, false, true, false, false, false, false, true, false, false, false, false, true, false, false, false, false, true, false, false, false, false, false] rfl rfl (take_ofW HT_.out HW_.out (by kernel_rfl)) (fun _ _ _ h => h) (Or.inl ⟨by rfl, ?_⟩) hHeld ?_ ?_
              rotate_left
              ·rintro w' ⟨s0, s1, s2, s3, s4, s5, s6, s7, s8, s9, s10, s11, s12, s13, s14, s15⟩
               go_simp
               with_reducible rfl
              rotate_left
              ·simp only [Act.put, List.setIfInBounds_toArray, List.set_cons_zero, List.set_cons_succ, i64_w, i32_w]
               rfl
              refine pure_ (i := 9) (N := some 54) (v := ?_) (a' := ?_) #[true, true, false, true, true, false, false, true, true, true, false, false, true, false, false, false, true, false, false, false, false, true, false, false, false, false, true, false, false, false, false, true, false, false, false, false, true, false, false, false, false, false] rfl rfl (any_of HT_.out (by kernel_rfl)) (fun _ _ _ h => h) (Or.inl ⟨by rfl, ?_⟩) ?_ ?_
              rotate_left
              ·intro w'
               go_simp
               with_reducible rfl
              rotate_left
              ·simp only [Act.put, List.setIfInBounds_toArray, List.set_cons_zero, List.set_cons_succ, i64_w, i32_w]
               rfl
              refine take_ (i := 13) (N := some 58) (v := ?_) (a' := ?_) #[true, true, false, true, true, false, false, true, true, true, false, false, true, true, false, false, true, false, false, false, false, true, false, false, false, false, true, false, false, false, false, true, false, false, false, false, true, false, false, false, false, false] rfl rfl (take_ofW HT_.out HW_.out (by kernel_rfl)) (fun _ _ _ h => h) (Or.inl ⟨by rfl, ?_⟩) hHeld ?_ ?_
              rotate_left
              ·rintro w' ⟨s0, s1, s2, s3, s4, s5, s6, s7, s8, s9, s10, s11, s12, s13, s14, s15⟩
               go_simp
               with_reducible rfl
              rotate_left
              ·simp only [Act.put, List.setIfInBounds_toArray, List.set_cons_zero, List.set_cons_succ, i64_w, i32_w]
               rfl
              refine take_ (i := 17) (N := some 62) (v := ?_) (a' := ?_) #[true, true, false, true, true, false, false, true, true, true, false, false, true, true, false, false, true, true, false, false, false, true, false, false, false, false, true, false, false, false, false, true, false, false, false, false, true, false, false, false, false, false] rfl rfl (take_ofW HT_.out HW_.out (by kernel_rfl)) (fun _ _ _ h => h) (Or.inl ⟨by rfl, ?_⟩) hHeld ?_ ?_
              rotate_left
              ·rintro w' ⟨s0, s1, s2, s3, s4, s5, s6, s7, s8, s9, s10, s11, s12, s13, s14, s15⟩
               go_simp
               with_reducible rfl
              rotate_left
              ·simp only [Act.put, List.setIfInBounds_toArray, List.set_cons_zero, List.set_cons_succ, i64_w, i32_w]
               rfl
              refine pure_ (i := 18) (N := some 63) (v := ?_) (a' := ?_) #[true, true, false, true, true, false, false, true, true, true, false, false, true, true, false, false, true, true, true, false, false, true, false, false, false, false, true, false, false, false, false, true, false, false, false, false, true, false, false, false, false, false] rfl rfl (any_of HT_.out (by kernel_rfl)) (fun _ _ _ h => h) (Or.inl ⟨by rfl, ?_⟩) ?_ ?_
              rotate_left
              ·intro w'
               go_simp
               with_reducible rfl
              rotate_left
              ·simp only [Act.put, List.setIfInBounds_toArray, List.set_cons_zero, List.set_cons_succ, i64_w, i32_w]
               rfl
              refine take_ (i := 22) (N := some 67) (v := ?_) (a' := ?_) #[true, true, false, true, true, false, false, true, true, true, false, false, true, true, false, false, true, true, true, false, false, true, true, false, false, false, true, false, false, false, false, true, false, false, false, false, true, false, false, false, false, false] rfl rfl (take_ofW HT_.out HW_.out (by kernel_rfl)) (fun _ _ _ h => h) (Or.inl ⟨by rfl, ?_⟩) hHeld ?_ ?_
              rotate_left
              ·rintro w' ⟨s0, s1, s2, s3, s4, s5, s6, s7, s8, s9, s10, s11, s12, s13, s14, s15⟩
               go_simp
               with_reducible rfl
              rotate_left
              ·simp only [Act.put, List.setIfInBounds_toArray, List.set_cons_zero, List.set_cons_succ, i64_w, i32_w]
               rfl
              refine pure_ (i := 23) (N := some 68) (v := ?_) (a' := ?_) #[true, true, false, true, true, false, false, true, true, true, false, false, true, true, false, false, true, true, true, false, false, true, true, true, false, false, true, false, false, false, false, true, false, false, false, false, true, false, false, false, false, false] rfl rfl (any_of HT_.out (by kernel_rfl)) (fun _ _ _ h => h) (Or.inl ⟨by rfl, ?_⟩) ?_ ?_
              rotate_left
              ·intro w'
               go_simp
               with_reducible rfl
              rotate_left
              ·simp only [Act.put, List.setIfInBounds_toArray, List.set_cons_zero, List.set_cons_succ, i64_w, i32_w]
               rfl
              refine take_ (i := 27) (N := some 72) (v := ?_) (a' := ?_) #[true, true, false, true, true, false, false, true, true, true, false, false, true, true, false, false, true, true, true, false, false, true, true, true, false, false, true, true, false, false, false, true, false, false, false, false, true, false, false, false, false, false] rfl rfl (take_ofW HT_.out HW_.out (by kernel_rfl)) (fun _ _ _ h => h) (Or.inl ⟨by rfl, ?_⟩) hHeld ?_ ?_
              rotate_left
              ·rintro w' ⟨s0, s1, s2, s3, s4, s5, s6, s7, s8, s9, s10, s11, s12, s13, s14, s15⟩
               go_simp
               with_reducible rfl
              rotate_left
              ·simp only [Act.put, List.setIfInBounds_toArray, List.set_cons_zero, List.set_cons_succ, i64_w, i32_w]
               rfl
              refine pure_ (i := 28) (N := some 73) (v := ?_) (a' := ?_) #[true, true, false, true, true, false, false, true, true, true, false, false, true, true, false, false, true, true, true, false, false, true, true, true, false, false, true, true, true, false, false, true, false, false, false, false, true, false, false, false, false, false] rfl rfl (any_of HT_.out (by kernel_rfl)) (fun _ _ _ h => h) (Or.inl ⟨by rfl, ?_⟩) ?_ ?_
              rotate_left
              ·intro w'
               go_simp
               with_reducible rfl
              rotate_left
              ·simp only [Act.put, List.setIfInBounds_toArray, List.set_cons_zero, List.set_cons_succ, i64_w, i32_w]
               rfl
              refine take_ (i := 32) (N := some 77) (v := ?_) (a' := ?_) #[true, true, false, true, true, false, false, true, true, true, false, false, true, true, false, false, true, true, true, false, false, true, true, true, false, false, true, true, true, false, false, true, true, false, false, false, true, false, false, false, false, false] rfl rfl (take_ofW HT_.out HW_.out (by kernel_rfl)) (fun _ _ _ h => h) (Or.inl ⟨by rfl, ?_⟩) hHeld ?_ ?_
              rotate_left
              ·rintro w' ⟨s0, s1, s2, s3, s4, s5, s6, s7, s8, s9, s10, s11, s12, s13, s14, s15⟩
               go_simp
               with_reducible rfl
              rotate_left
              ·simp only [Act.put, List.setIfInBounds_toArray, List.set_cons_zero, List.set_cons_succ, i64_w, i32_w]
               rfl
              refine pure_ (i := 33) (N := some 78) (v := ?_) (a' := ?_) #[true, true, false, true, true, false, false, true, true, true, false, false, true, true, false, false, true, true, true, false, false, true, true, true, false, false, true, true, true, false, false, true, true, true, false, false, true, false, false, false, false, false] rfl rfl (any_of HT_.out (by kernel_rfl)) (fun _ _ _ h => h) (Or.inl ⟨by rfl, ?_⟩) ?_ ?_
              rotate_left
              ·intro w'
               go_simp
               with_reducible rfl
              rotate_left
              ·simp only [Act.put, List.setIfInBounds_toArray, List.set_cons_zero, List.set_cons_succ, i64_w, i32_w]
               rfl
              refine take_ (i := 37) (N := some 82) (v := ?_) (a' := ?_) #[true, true, false, true, true, false, false, true, true, true, false, false, true, true, false, false, true, true, true, false, false, true, true, true, false, false, true, true, true, false, false, true, true, true, false, false, true, true, false, false, false, false] rfl rfl (take_ofW HT_.out HW_.out (by kernel_rfl)) (fun _ _ _ h => h) (Or.inl ⟨by rfl, ?_⟩) hHeld ?_ ?_
              rotate_left
              ·rintro w' ⟨s0, s1, s2, s3, s4, s5, s6, s7, s8, s9, s10, s11, s12, s13, s14, s15⟩
               go_simp
               with_reducible rfl
              rotate_left
              ·simp only [Act.put, List.setIfInBounds_toArray, List.set_cons_zero, List.set_cons_succ, i64_w, i32_w]
               rfl
              refine pure_ (i := 38) (N := some 83) (v := ?_) (a' := ?_) #[true, true, false, true, true, false, false, true, true, true, false, false, true, true, false, false, true, true, true, false, false, true, true, true, false, false, true, true, true, false, false, true, true, true, false, false, true, true, true, false, false, false] rfl rfl (any_of HT_.out (by kernel_rfl)) (fun _ _ _ h => h) (Or.inl ⟨by rfl, ?_⟩) ?_ ?_
              rotate_left
              ·intro w'
               go_simp
               with_reducible rfl
              rotate_left
              ·simp only [Act.put, List.setIfInBounds_toArray, List.set_cons_zero, List.set_cons_succ, i64_w, i32_w]
               rfl
              refine one_ (i := 2) (N := some 47) #[true, true, true, true, true, false, false, true, true, true, false, false, true, true, false, false, true, true, true, false, false, true, true, true, false, false, true, true, true, false, false, true, true, true, false, false, true, true, true, false, false, false] rfl rfl (one_of HT_.out (by kernel_rfl)) (by decide) (fun K hK => ?_)
              refine goes_ Tryd.func22 (by kernel_rfl) rfl #[.int .u64 (IntKind.u64.wrap (wrap64 ((wrap64 ((wrap64 ((wrap64 ((wrap64 ((wrap64 (t142 + t143)) + (wrap64 (4 * a0_7)))) + t144)) + t145)) + t146)) + t147))), .int .i64 1] (by first | rfl | exact wanted_on rfl rfl rfl (by first | rfl | (simp [*]; done) | (simp [*, IntKind.wrap_u32]; done))) rfl rfl (by (try simp only [List.map_toArray, List.map_cons, List.map_nil]); first | done | rfl | (simp only [List.length_drop, List.length_take]; rfl)) ?_
              with_reducible refine (gangwayref01_Bytes.calls k (IntKind.u64.wrap (wrap64 ((wrap64 ((wrap64 ((wrap64 ((wrap64 ((wrap64 (t142 + t143)) + (wrap64 (4 * a0_7)))) + t144)) + t145)) + t146)) + t147))) 1 t148 _ A16.out).mono ?_
              rintro e w61 ⟨rfl, hb⟩
              refine ⟨_, rfl, ?_⟩
              have n0_ := Aside0.mk (blk_below (g := gb140) (o := .cells #[.int .i64 a0_0, .bool a0_1, .bool a0_2, .bool a0_3, .bool a0_4, .bool a0_5, .bool a0_6, .int .i64 a0_7, .int .u64 a0_8, .int .i64 a0_9, .int .u64 a0_10, .int .i64 a0_11, .int .i64 a0_12, .int .i64 a0_13, .int .i64 a0_14, .int .i64 a0_15] 24 (0, 0)) (by (with_reducible repeat (first | refine blk_drewN ?_ _ | refine blk_drew ?_ | refine blk_alloc ?_ _)); exact BK140.out) hb)
              have n1_ := Aside0.mk (below_step (by repeat (first | (with_reducible first | exact HB.out | apply below_alloc | apply pw_below_drewN | apply below_drew1 | refine below_set ?_ GE140.out) | exact HB.out)) hb)
              clear BK140
              clear HB
              have BK140 := n0_
              have HB := n1_
              clear n0_ n1_
              (try clear hb)
              (try clear hb2)
              (try clear hk)
              (try clear hi)
              refine hK.out _ _ ⟨(blk_cell BK140.out 0).trans rfl, (blk_cell BK140.out 1).trans rfl, (blk_cell BK140.out 2).trans rfl, (blk_cell BK140.out 3).trans rfl, (blk_cell BK140.out 4).trans rfl, (blk_cell BK140.out 5).trans rfl, (blk_cell BK140.out 6).trans rfl, (blk_cell BK140.out 7).trans rfl, (blk_cell BK140.out 8).trans rfl, (blk_cell BK140.out 9).trans rfl, (blk_cell BK140.out 10).trans rfl, (blk_cell BK140.out 11).trans rfl, (blk_cell BK140.out 12).trans rfl, (blk_cell BK140.out 13).trans rfl, (blk_cell BK140.out 14).trans rfl, (blk_cell BK140.out 15).trans rfl⟩ (fun hHeld => ?_)
              clear hK K
              refine norm_ (a' := ?_) ?_ ?_
              rotate_left
              ·show Act.put _ (some 47) _ = _
               simp only [Act.put, List.setIfInBounds_toArray, List.set_cons_zero, List.set_cons_succ, i64_w, i32_w]
               rfl
              refine one_ (i := 5) (N := some 50) #[true, true, true, true, true, true, false, true, true, true, false, false, true, true, false, false, true, true, true, false, false, true, true, true, false, false, true, true, true, false, false, true, true, true, false, false, true, true, true, false, false, false] rfl rfl (one_of HT_.out (by kernel_rfl)) (by decide) (fun K hK => ?_)
              refine goes_ Tryd.func22 (by kernel_rfl) rfl #[.int .u64 a0_8, .int .i64 8] (by first | rfl | exact wanted_on rfl rfl rfl (by first | rfl | (simp [*]; done) | (simp [*, IntKind.wrap_u32]; done))) rfl rfl (by (try simp only [List.map_toArray, List.map_cons, List.map_nil]); first | done | rfl | (simp only [List.length_drop, List.length_take]; rfl)) ?_
              with_reducible refine (gangwayref01_Bytes.calls k a0_8 8 t149 _ A17.out).mono ?_
              rintro e w62 ⟨rfl, hb⟩
              refine ⟨_, rfl, ?_⟩
              have n0_ := Aside0.mk (blk_below (g := gb140) (o := .cells #[.int .i64 a0_0, .bool a0_1, .bool a0_2, .bool a0_3, .bool a0_4, .bool a0_5, .bool a0_6, .int .i64 a0_7, .int .u64 a0_8, .int .i64 a0_9, .int .u64 a0_10, .int .i64 a0_11, .int .i64 a0_12, .int .i64 a0_13, .int .i64 a0_14, .int .i64 a0_15] 24 (0, 0)) (by (with_reducible repeat (first | refine blk_drewN ?_ _ | refine blk_drew ?_ | refine blk_alloc ?_ _)); exact BK140.out) hb)
              have n1_ := Aside0.mk (below_step (by repeat (first | (with_reducible first | exact HB.out | apply below_alloc | apply pw_below_drewN | apply below_drew1 | refine below_set ?_ GE140.out) | exact HB.out)) hb)
              clear BK140
              clear HB
              have BK140 := n0_
              have HB := n1_
              clear n0_ n1_
              (try clear hb)
              (try clear hb2)
              (try clear hk)
              (try clear hi)
              refine hK.out _ _ ⟨(blk_cell BK140.out 0).trans rfl, (blk_cell BK140.out 1).trans rfl, (blk_cell BK140.out 2).trans rfl, (blk_cell BK140.out 3).trans rfl, (blk_cell BK140.out 4).trans rfl, (blk_cell BK140.out 5).trans rfl, (blk_cell BK140.out 6).trans rfl, (blk_cell BK140.out 7).trans rfl, (blk_cell BK140.out 8).trans rfl, (blk_cell BK140.out 9).trans rfl, (blk_cell BK140.out 10).trans rfl, (blk_cell BK140.out 11).trans rfl, (blk_cell BK140.out 12).trans rfl, (blk_cell BK140.out 13).trans rfl, (blk_cell BK140.out 14).trans rfl, (blk_cell BK140.out 15).trans rfl⟩ (fun hHeld => ?_)
              clear hK K
              refine norm_ (a' := ?_) ?_ ?_
              rotate_left
              ·show Act.put _ (some 50) _ = _
               simp only [Act.put, List.setIfInBounds_toArray, List.set_cons_zero, List.set_cons_succ, i64_w, i32_w]
               rfl
              refine pure_ (i := 6) (N := some 51) (v := ?_) (a' := ?_) #[true, true, true, true, true, true, true, true, true, true, false, false, true, true, false, false, true, true, true, false, false, true, true, true, false, false, true, true, true, false, false, true, true, true, false, false, true, true, true, false, false, false] rfl rfl (any_of HT_.out (by kernel_rfl)) (fun _ _ _ h => h) (Or.inl ⟨by rfl, ?_⟩) ?_ ?_
              rotate_left
              ·intro w'
               go_simp
               with_reducible rfl
              rotate_left
              ·simp only [Act.put, List.setIfInBounds_toArray, List.set_cons_zero, List.set_cons_succ, i64_w, i32_w]
               rfl
              refine one_ (i := 10) (N := some 55) #[true, true, true, true, true, true, true, true, true, true, true, false, true, true, false, false, true, true, true, false, false, true, true, true, false, false, true, true, true, false, false, true, true, true, false, false, true, true, true, false, false, false] rfl rfl (one_of HT_.out (by kernel_rfl)) (by decide) (fun K hK => ?_)
              refine goes_ Tryd.func22 (by kernel_rfl) rfl #[.int .u64 (IntKind.u64.wrap (a0_9)), .int .i64 4] (by first | rfl | exact wanted_on rfl rfl rfl (by first | rfl | (simp [*]; done) | (simp [*, IntKind.wrap_u32]; done))) rfl rfl (by (try simp only [List.map_toArray, List.map_cons, List.map_nil]); first | done | rfl | (simp only [List.length_drop, List.length_take]; rfl)) ?_
              with_reducible refine (gangwayref01_Bytes.calls k (IntKind.u64.wrap (a0_9)) 4 t150 _ A19.out).mono ?_
              rintro e w63 ⟨rfl, hb⟩
              refine ⟨_, rfl, ?_⟩
              have n0_ := Aside0.mk (blk_below (g := gb140) (o := .cells #[.int .i64 a0_0, .bool a0_1, .bool a0_2, .bool a0_3, .bool a0_4, .bool a0_5, .bool a0_6, .int .i64 a0_7, .int .u64 a0_8, .int .i64 a0_9, .int .u64 a0_10, .int .i64 a0_11, .int .i64 a0_12, .int .i64 a0_13, .int .i64 a0_14, .int .i64 a0_15] 24 (0, 0)) (by (with_reducible repeat (first | refine blk_drewN ?_ _ | refine blk_drew ?_ | refine blk_alloc ?_ _)); exact BK140.out) hb)
              have n1_ := Aside0.mk (below_step (by repeat (first | (with_reducible first | exact HB.out | apply below_alloc | apply pw_below_drewN | apply below_drew1 | refine below_set ?_ GE140.out) | exact HB.out)) hb)
              clear BK140
              clear HB
              have BK140 := n0_
              have HB := n1_
              clear n0_ n1_
              (try clear hb)
              (try clear hb2)
              (try clear hk)
              (try clear hi)
              refine hK.out _ _ ⟨(blk_cell BK140.out 0).trans rfl, (blk_cell BK140.out 1).trans rfl, (blk_cell BK140.out 2).trans rfl, (blk_cell BK140.out 3).trans rfl, (blk_cell BK140.out 4).trans rfl, (blk_cell BK140.out 5).trans rfl, (blk_cell BK140.out 6).trans rfl, (blk_cell BK140.out 7).trans rfl, (blk_cell BK140.out 8).trans rfl, (blk_cell BK140.out 9).trans rfl, (blk_cell BK140.out 10).trans rfl, (blk_cell BK140.out 11).trans rfl, (blk_cell BK140.out 12).trans rfl, (blk_cell BK140.out 13).trans rfl, (blk_cell BK140.out 14).trans rfl, (blk_cell BK140.out 15).trans rfl⟩ (fun hHeld => ?_)
              clear hK K
              refine norm_ (a' := ?_) ?_ ?_
              rotate_left
              ·show Act.put _ (some 55) _ = _
               simp only [Act.put, List.setIfInBounds_toArray, List.set_cons_zero, List.set_cons_succ, i64_w, i32_w]
               rfl
              refine pure_ (i := 11) (N := some 56) (v := ?_) (a' := ?_) #[true, true, true, true, true, true, true, true, true, true, true, true, true, true, false, false, true, true, true, false, false, true, true, true, false, false, true, true, true, false, false, true, true, true, false, false, true, true, true, false, false, false] rfl rfl (any_of HT_.out (by kernel_rfl)) (fun _ _ _ h => h) (Or.inl ⟨by rfl, ?_⟩) ?_ ?_
              rotate_left
              ·intro w'
               go_simp
               with_reducible rfl
              rotate_left
              ·simp only [Act.put, List.setIfInBounds_toArray, List.set_cons_zero, List.set_cons_succ, i64_w, i32_w]
               rfl
              refine one_ (i := 14) (N := some 59) #[true, true, true, true, true, true, true, true, true, true, true, true, true, true, true, false, true, true, true, false, false, true, true, true, false, false, true, true, true, false, false, true, true, true, false, false, true, true, true, false, false, false] rfl rfl (one_of HT_.out (by kernel_rfl)) (by decide) (fun K hK => ?_)
              refine goes_ Tryd.func22 (by kernel_rfl) rfl #[.int .u64 a0_10, .int .i64 8] (by first | rfl | exact wanted_on rfl rfl rfl (by first | rfl | (simp [*]; done) | (simp [*, IntKind.wrap_u32]; done))) rfl rfl (by (try simp only [List.map_toArray, List.map_cons, List.map_nil]); first | done | rfl | (simp only [List.length_drop, List.length_take]; rfl)) ?_
              with_reducible refine (gangwayref01_Bytes.calls k a0_10 8 t151 _ A21.out).mono ?_
              rintro e w64 ⟨rfl, hb⟩
              refine ⟨_, rfl, ?_⟩
              have n0_ := Aside0.mk (blk_below (g := gb140) (o := .cells #[.int .i64 a0_0, .bool a0_1, .bool a0_2, .bool a0_3, .bool a0_4, .bool a0_5, .bool a0_6, .int .i64 a0_7, .int .u64 a0_8, .int .i64 a0_9, .int .u64 a0_10, .int .i64 a0_11, .int .i64 a0_12, .int .i64 a0_13, .int .i64 a0_14, .int .i64 a0_15] 24 (0, 0)) (by (with_reducible repeat (first | refine blk_drewN ?_ _ | refine blk_drew ?_ | refine blk_alloc ?_ _)); exact BK140.out) hb)
              have n1_ := Aside0.mk (below_step (by repeat (first | (with_reducible first | exact HB.out | apply below_alloc | apply pw_below_drewN | apply below_drew1 | refine below_set ?_ GE140.out) | exact HB.out)) hb)
              clear BK140
              clear HB
              have BK140 := n0_
              have HB := n1_
              clear n0_ n1_
              (try clear hb)
              (try clear hb2)
              (try clear hk)
              (try clear hi)
              refine hK.out _ _ ⟨(blk_cell BK140.out 0).trans rfl, (blk_cell BK140.out 1).trans rfl, (blk_cell BK140.out 2).trans rfl, (blk_cell BK140.out 3).trans rfl, (blk_cell BK140.out 4).trans rfl, (blk_cell BK140.out 5).trans rfl, (blk_cell BK140.out 6).trans rfl, (blk_cell BK140.out 7).trans rfl, (blk_cell BK140.out 8).trans rfl, (blk_cell BK140.out 9).trans rfl, (blk_cell BK140.out 10).trans rfl, (blk_cell BK140.out 11).trans rfl, (blk_cell BK140.out 12).trans rfl, (blk_cell BK140.out 13).trans rfl, (blk_cell BK140.out 14).trans rfl, (blk_cell BK140.out 15).trans rfl⟩ (fun hHeld => ?_)
              clear hK K
              refine norm_ (a' := ?_) ?_ ?_
              rotate_left
              ·show Act.put _ (some 59) _ = _
               simp only [Act.put, List.setIfInBounds_toArray, List.set_cons_zero, List.set_cons_succ, i64_w, i32_w]
               rfl
              refine pure_ (i := 15) (N := some 60) (v := ?_) (a' := ?_) #[true, true, true, true, true, true, true, true, true, true, true, true, true, true, true, true, true, true, true, false, false, true, true, true, false, false, true, true, true, false, false, true, true, true, false, false, true, true, true, false, false, false] rfl rfl (any_of HT_.out (by kernel_rfl)) (fun _ _ _ h => h) (Or.inl ⟨by rfl, ?_⟩) ?_ ?_
              rotate_left
              ·intro w'
               go_simp
               with_reducible rfl
              rotate_left
              ·simp only [Act.put, List.setIfInBounds_toArray, List.set_cons_zero, List.set_cons_succ, i64_w, i32_w]
               rfl
              refine one_ (i := 19) (N := some 64) #[true, true, true, true, true, true, true, true, true, true, true, true, true, true, true, true, true, true, true, true, false, true, true, true, false, false, true, true, true, false, false, true, true, true, false, false, true, true, true, false, false, false] rfl rfl (one_of HT_.out (by kernel_rfl)) (by decide) (fun K hK => ?_)
              refine goes_ Tryd.func22 (by kernel_rfl) rfl #[.int .u64 (IntKind.u64.wrap (a0_11)), .int .i64 2] (by first | rfl | exact wanted_on rfl rfl rfl (by first | rfl | (simp [*]; done) | (simp [*, IntKind.wrap_u32]; done))) rfl rfl (by (try simp only [List.map_toArray, List.map_cons, List.map_nil]); first | done | rfl | (simp only [List.length_drop, List.length_take]; rfl)) ?_
              with_reducible refine (gangwayref01_Bytes.calls k (IntKind.u64.wrap (a0_11)) 2 t152 _ A23.out).mono ?_
              rintro e w65 ⟨rfl, hb⟩
              refine ⟨_, rfl, ?_⟩
              have n0_ := Aside0.mk (blk_below (g := gb140) (o := .cells #[.int .i64 a0_0, .bool a0_1, .bool a0_2, .bool a0_3, .bool a0_4, .bool a0_5, .bool a0_6, .int .i64 a0_7, .int .u64 a0_8, .int .i64 a0_9, .int .u64 a0_10, .int .i64 a0_11, .int .i64 a0_12, .int .i64 a0_13, .int .i64 a0_14, .int .i64 a0_15] 24 (0, 0)) (by (with_reducible repeat (first | refine blk_drewN ?_ _ | refine blk_drew ?_ | refine blk_alloc ?_ _)); exact BK140.out) hb)
              have n1_ := Aside0.mk (below_step (by repeat (first | (with_reducible first | exact HB.out | apply below_alloc | apply pw_below_drewN | apply below_drew1 | refine below_set ?_ GE140.out) | exact HB.out)) hb)
              clear BK140
              clear HB
              have BK140 := n0_
              have HB := n1_
              clear n0_ n1_
              (try clear hb)
              (try clear hb2)
              (try clear hk)
              (try clear hi)
              refine hK.out _ _ ⟨(blk_cell BK140.out 0).trans rfl, (blk_cell BK140.out 1).trans rfl, (blk_cell BK140.out 2).trans rfl, (blk_cell BK140.out 3).trans rfl, (blk_cell BK140.out 4).trans rfl, (blk_cell BK140.out 5).trans rfl, (blk_cell BK140.out 6).trans rfl, (blk_cell BK140.out 7).trans rfl, (blk_cell BK140.out 8).trans rfl, (blk_cell BK140.out 9).trans rfl, (blk_cell BK140.out 10).trans rfl, (blk_cell BK140.out 11).trans rfl, (blk_cell BK140.out 12).trans rfl, (blk_cell BK140.out 13).trans rfl, (blk_cell BK140.out 14).trans rfl, (blk_cell BK140.out 15).trans rfl⟩ (fun hHeld => ?_)
              clear hK K
              refine norm_ (a' := ?_) ?_ ?_
              rotate_left
              ·show Act.put _ (some 64) _ = _
               simp only [Act.put, List.setIfInBounds_toArray, List.set_cons_zero, List.set_cons_succ, i64_w, i32_w]
               rfl
              refine pure_ (i := 20) (N := some 65) (v := ?_) (a' := ?_) #[true, true, true, true, true, true, true, true, true, true, true, true, true, true, true, true, true, true, true, true, true, true, true, true, false, false, true, true, true, false, false, true, true, true, false, false, true, true, true, false, false, false] rfl rfl (any_of HT_.out (by kernel_rfl)) (fun _ _ _ h => h) (Or.inl ⟨by rfl, ?_⟩) ?_ ?_
              rotate_left
              ·intro w'
               go_simp
               with_reducible rfl
              rotate_left
              ·simp only [Act.put, List.setIfInBounds_toArray, List.set_cons_zero, List.set_cons_succ, i64_w, i32_w]
               rfl
              refine one_ (i := 24) (N := some 69) #[true, true, true, true, true, true, true, true, true, true, true, true, true, true, true, true, true, true, true, true, true, true, true, true, true, false, true, true, true, false, false, true, true, true, false, false, true, true, true, false, false, false] rfl rfl (one_of HT_.out (by kernel_rfl)) (by decide) (fun K hK => ?_)
              refine goes_ Tryd.func22 (by kernel_rfl) rfl #[.int .u64 (IntKind.u64.wrap (a0_12)), .int .i64 2] (by first | rfl | exact wanted_on rfl rfl rfl (by first | rfl | (simp [*]; done) | (simp [*, IntKind.wrap_u32]; done))) rfl rfl (by (try simp only [List.map_toArray, List.map_cons, List.map_nil]); first | done | rfl | (simp only [List.length_drop, List.length_take]; rfl)) ?_
              with_reducible refine (gangwayref01_Bytes.calls k (IntKind.u64.wrap (a0_12)) 2 t153 _ A25.out).mono ?_
              rintro e w66 ⟨rfl, hb⟩
              refine ⟨_, rfl, ?_⟩
              have n0_ := Aside0.mk (blk_below (g := gb140) (o := .cells #[.int .i64 a0_0, .bool a0_1, .bool a0_2, .bool a0_3, .bool a0_4, .bool a0_5, .bool a0_6, .int .i64 a0_7, .int .u64 a0_8, .int .i64 a0_9, .int .u64 a0_10, .int .i64 a0_11, .int .i64 a0_12, .int .i64 a0_13, .int .i64 a0_14, .int .i64 a0_15] 24 (0, 0)) (by (with_reducible repeat (first | refine blk_drewN ?_ _ | refine blk_drew ?_ | refine blk_alloc ?_ _)); exact BK140.out) hb)
              have n1_ := Aside0.mk (below_step (by repeat (first | (with_reducible first | exact HB.out | apply below_alloc | apply pw_below_drewN | apply below_drew1 | refine below_set ?_ GE140.out) | exact HB.out)) hb)
              clear BK140
              clear HB
              have BK140 := n0_
              have HB := n1_
              clear n0_ n1_
              (try clear hb)
              (try clear hb2)
              (try clear hk)
              (try clear hi)
              refine hK.out _ _ ⟨(blk_cell BK140.out 0).trans rfl, (blk_cell BK140.out 1).trans rfl, (blk_cell BK140.out 2).trans rfl, (blk_cell BK140.out 3).trans rfl, (blk_cell BK140.out 4).trans rfl, (blk_cell BK140.out 5).trans rfl, (blk_cell BK140.out 6).trans rfl, (blk_cell BK140.out 7).trans rfl, (blk_cell BK140.out 8).trans rfl, (blk_cell BK140.out 9).trans rfl, (blk_cell BK140.out 10).trans rfl, (blk_cell BK140.out 11).trans rfl, (blk_cell BK140.out 12).trans rfl, (blk_cell BK140.out 13).trans rfl, (blk_cell BK140.out 14).trans rfl, (blk_cell BK140.out 15).trans rfl⟩ (fun hHeld => ?_)
              clear hK K
              refine norm_ (a' := ?_) ?_ ?_
              rotate_left
              ·show Act.put _ (some 69) _ = _
               simp only [Act.put, List.setIfInBounds_toArray, List.set_cons_zero, List.set_cons_succ, i64_w, i32_w]
               rfl
              refine pure_ (i := 25) (N := some 70) (v := ?_) (a' := ?_) #[true, true, true, true, true, true, true, true, true, true, true, true, true, true, true, true, true, true, true, true, true, true, true, true, true, true, true, true, true, false, false, true, true, true, false, false, true, true, true, false, false, false] rfl rfl (any_of HT_.out (by kernel_rfl)) (fun _ _ _ h => h) (Or.inl ⟨by rfl, ?_⟩) ?_ ?_
              rotate_left
              ·intro w'
               go_simp
               with_reducible rfl
              rotate_left
              ·simp only [Act.put, List.setIfInBounds_toArray, List.set_cons_zero, List.set_cons_succ, i64_w, i32_w]
               rfl
              refine one_ (i := 29) (N := some 74) #[true, true, true, true, true, true, true, true, true, true, true, true, true, true, true, true, true, true, true, true, true, true, true, true, true, true, true, true, true, true, false, true, true, true, false, false, true, true, true, false, false, false] rfl rfl (one_of HT_.out (by kernel_rfl)) (by decide) (fun K hK => ?_)
              refine goes_ Tryd.func22 (by kernel_rfl) rfl #[.int .u64 (IntKind.u64.wrap (a0_13)), .int .i64 2] (by first | rfl | exact wanted_on rfl rfl rfl (by first | rfl | (simp [*]; done) | (simp [*, IntKind.wrap_u32]; done))) rfl rfl (by (try simp only [List.map_toArray, List.map_cons, List.map_nil]); first | done | rfl | (simp only [List.length_drop, List.length_take]; rfl)) ?_
              with_reducible refine (gangwayref01_Bytes.calls k (IntKind.u64.wrap (a0_13)) 2 t154 _ A27.out).mono ?_
              rintro e w67 ⟨rfl, hb⟩
              refine ⟨_, rfl, ?_⟩
              have n0_ := Aside0.mk (blk_below (g := gb140) (o := .cells #[.int .i64 a0_0, .bool a0_1, .bool a0_2, .bool a0_3, .bool a0_4, .bool a0_5, .bool a0_6, .int .i64 a0_7, .int .u64 a0_8, .int .i64 a0_9, .int .u64 a0_10, .int .i64 a0_11, .int .i64 a0_12, .int .i64 a0_13, .int .i64 a0_14, .int .i64 a0_15] 24 (0, 0)) (by (with_reducible repeat (first | refine blk_drewN ?_ _ | refine blk_drew ?_ | refine blk_alloc ?_ _)); exact BK140.out) hb)
              have n1_ := Aside0.mk (below_step (by repeat (first | (with_reducible first | exact HB.out | apply below_alloc | apply pw_below_drewN | apply below_drew1 | refine below_set ?_ GE140.out) | exact HB.out)) hb)
              clear BK140
              clear HB
              have BK140 := n0_
              have HB := n1_
              clear n0_ n1_
              (try clear hb)
              (try clear hb2)
              (try clear hk)
              (try clear hi)
              refine hK.out _ _ ⟨(blk_cell BK140.out 0).trans rfl, (blk_cell BK140.out 1).trans rfl, (blk_cell BK140.out 2).trans rfl, (blk_cell BK140.out 3).trans rfl, (blk_cell BK140.out 4).trans rfl, (blk_cell BK140.out 5).trans rfl, (blk_cell BK140.out 6).trans rfl, (blk_cell BK140.out 7).trans rfl, (blk_cell BK140.out 8).trans rfl, (blk_cell BK140.out 9).trans rfl, (blk_cell BK140.out 10).trans rfl, (blk_cell BK140.out 11).trans rfl, (blk_cell BK140.out 12).trans rfl, (blk_cell BK140.out 13).trans rfl, (blk_cell BK140.out 14).trans rfl, (blk_cell BK140.out 15).trans rfl⟩ (fun hHeld => ?_)
              clear hK K
              refine norm_ (a' := ?_) ?_ ?_
              rotate_left
              ·show Act.put _ (some 74) _ = _
               simp only [Act.put, List.setIfInBounds_toArray, List.set_cons_zero, List.set_cons_succ, i64_w, i32_w]
               rfl
              refine pure_ (i := 30) (N := some 75) (v := ?_) (a' := ?_) #[true, true, true, true, true, true, true, true, true, true, true, true, true, true, true, true, true, true, true, true, true, true, true, true, true, true, true, true, true, true, true, true, true, true, false, false, true, true, true, false, false, false] rfl rfl (any_of HT_.out (by kernel_rfl)) (fun _ _ _ h => h) (Or.inl ⟨by rfl, ?_⟩) ?_ ?_
              rotate_left
              ·intro w'
               go_simp
               with_reducible rfl
              rotate_left
              ·simp only [Act.put, List.setIfInBounds_toArray, List.set_cons_zero, List.set_cons_succ, i64_w, i32_w]
               rfl
              refine one_ (i := 34) (N := some 79) #[true, true, true, true, true, true, true, true, true, true, true, true, true, true, true, true, true, true, true, true, true, true, true, true, true, true, true, true, true, true, true, true, true, true, true, false, true, true, true, false, false, false] rfl rfl (one_of HT_.out (by kernel_rfl)) (by decide) (fun K hK => ?_)
              refine goes_ Tryd.func22 (by kernel_rfl) rfl #[.int .u64 (IntKind.u64.wrap (a0_14)), .int .i64 2] (by first | rfl | exact wanted_on rfl rfl rfl (by first | rfl | (simp [*]; done) | (simp [*, IntKind.wrap_u32]; done))) rfl rfl (by (try simp only [List.map_toArray, List.map_cons, List.map_nil]); first | done | rfl | (simp only [List.length_drop, List.length_take]; rfl)) ?_
              with_reducible refine (gangwayref01_Bytes.calls k (IntKind.u64.wrap (a0_14)) 2 t155 _ A29.out).mono ?_
              rintro e w68 ⟨rfl, hb⟩
              refine ⟨_, rfl, ?_⟩
              have n0_ := Aside0.mk (blk_below (g := gb140) (o := .cells #[.int .i64 a0_0, .bool a0_1, .bool a0_2, .bool a0_3, .bool a0_4, .bool a0_5, .bool a0_6, .int .i64 a0_7, .int .u64 a0_8, .int .i64 a0_9, .int .u64 a0_10, .int .i64 a0_11, .int .i64 a0_12, .int .i64 a0_13, .int .i64 a0_14, .int .i64 a0_15] 24 (0, 0)) (by (with_reducible repeat (first | refine blk_drewN ?_ _ | refine blk_drew ?_ | refine blk_alloc ?_ _)); exact BK140.out) hb)
              have n1_ := Aside0.mk (below_step (by repeat (first | (with_reducible first | exact HB.out | apply below_alloc | apply pw_below_drewN | apply below_drew1 | refine below_set ?_ GE140.out) | exact HB.out)) hb)
              clear BK140
              clear HB
              have BK140 := n0_
              have HB := n1_
              clear n0_ n1_
              (try clear hb)
              (try clear hb2)
              (try clear hk)
              (try clear hi)
              refine hK.out _ _ ⟨(blk_cell BK140.out 0).trans rfl, (blk_cell BK140.out 1).trans rfl, (blk_cell BK140.out 2).trans rfl, (blk_cell BK140.out 3).trans rfl, (blk_cell BK140.out 4).trans rfl, (blk_cell BK140.out 5).trans rfl, (blk_cell BK140.out 6).trans rfl, (blk_cell BK140.out 7).trans rfl, (blk_cell BK140.out 8).trans rfl, (blk_cell BK140.out 9).trans rfl, (blk_cell BK140.out 10).trans rfl, (blk_cell BK140.out 11).trans rfl, (blk_cell BK140.out 12).trans rfl, (blk_cell BK140.out 13).trans rfl, (blk_cell BK140.out 14).trans rfl, (blk_cell BK140.out 15).trans rfl⟩ (fun hHeld => ?_)
              clear hK K
              refine norm_ (a' := ?_) ?_ ?_
              rotate_left
              ·show Act.put _ (some 79) _ = _
               simp only [Act.put, List.setIfInBounds_toArray, List.set_cons_zero, List.set_cons_succ, i64_w, i32_w]
               rfl
              refine pure_ (i := 35) (N := some 80) (v := ?_) (a' := ?_) #[true, true, true, true, true, true, true, true, true, true, true, true, true, true, true, true, true, true, true, true, true, true, true, true, true, true, true, true, true, true, true, true, true, true, true, true, true, true, true, false, false, false] rfl rfl (any_of HT_.out (by kernel_rfl)) (fun _ _ _ h => h) (Or.inl ⟨by rfl, ?_⟩) ?_ ?_
              rotate_left
              ·intro w'
               go_simp
               with_reducible rfl
              rotate_left
              ·simp only [Act.put, List.setIfInBounds_toArray, List.set_cons_zero, List.set_cons_succ, i64_w, i32_w]
               rfl
              refine one_ (i := 39) (N := some 84) #[true, true, true, true, true, true, true, true, true, true, true, true, true, true, true, true, true, true, true, true, true, true, true, true, true, true, true, true, true, true, true, true, true, true, true, true, true, true, true, true, false, false] rfl rfl (one_of HT_.out (by kernel_rfl)) (by decide) (fun K hK => ?_)
              refine goes_ Tryd.func22 (by kernel_rfl) rfl #[.int .u64 (IntKind.u64.wrap (a0_15)), .int .i64 2] (by first | rfl | exact wanted_on rfl rfl rfl (by first | rfl | (simp [*]; done) | (simp [*, IntKind.wrap_u32]; done))) rfl rfl (by (try simp only [List.map_toArray, List.map_cons, List.map_nil]); first | done | rfl | (simp only [List.length_drop, List.length_take]; rfl)) ?_
              with_reducible refine (gangwayref01_Bytes.calls k (IntKind.u64.wrap (a0_15)) 2 t156 _ A31.out).mono ?_
              rintro e w69 ⟨rfl, hb⟩
              refine ⟨_, rfl, ?_⟩
              have n0_ := Aside0.mk (blk_below (g := gb140) (o := .cells #[.int .i64 a0_0, .bool a0_1, .bool a0_2, .bool a0_3, .bool a0_4, .bool a0_5, .bool a0_6, .int .i64 a0_7, .int .u64 a0_8, .int .i64 a0_9, .int .u64 a0_10, .int .i64 a0_11, .int .i64 a0_12, .int .i64 a0_13, .int .i64 a0_14, .int .i64 a0_15] 24 (0, 0)) (by (with_reducible repeat (first | refine blk_drewN ?_ _ | refine blk_drew ?_ | refine blk_alloc ?_ _)); exact BK140.out) hb)
              have n1_ := Aside0.mk (below_step (by repeat (first | (with_reducible first | exact HB.out | apply below_alloc | apply pw_below_drewN | apply below_drew1 | refine below_set ?_ GE140.out) | exact HB.out)) hb)
              clear BK140
              clear HB
              have BK140 := n0_
              have HB := n1_
              clear n0_ n1_
              (try clear hb)
              (try clear hb2)
              (try clear hk)
              (try clear hi)
              refine hK.out _ _ ⟨(blk_cell BK140.out 0).trans rfl, (blk_cell BK140.out 1).trans rfl, (blk_cell BK140.out 2).trans rfl, (blk_cell BK140.out 3).trans rfl, (blk_cell BK140.out 4).trans rfl, (blk_cell BK140.out 5).trans rfl, (blk_cell BK140.out 6).trans rfl, (blk_cell BK140.out 7).trans rfl, (blk_cell BK140.out 8).trans rfl, (blk_cell BK140.out 9).trans rfl, (blk_cell BK140.out 10).trans rfl, (blk_cell BK140.out 11).trans rfl, (blk_cell BK140.out 12).trans rfl, (blk_cell BK140.out 13).trans rfl, (blk_cell BK140.out 14).trans rfl, (blk_cell BK140.out 15).trans rfl⟩ (fun hHeld => ?_)
              clear hK K
              refine norm_ (a' := ?_) ?_ ?_
              rotate_left
              ·show Act.put _ (some 84) _ = _
               simp only [Act.put, List.setIfInBounds_toArray, List.set_cons_zero, List.set_cons_succ, i64_w, i32_w]
               rfl
              refine pure_ (i := 40) (N := some 85) (v := ?_) (a' := ?_) #[true, true, true, true, true, true, true, true, true, true, true, true, true, true, true, true, true, true, true, true, true, true, true, true, true, true, true, true, true, true, true, true, true, true, true, true, true, true, true, true, true, false] rfl rfl (any_of HT_.out (by kernel_rfl)) (fun _ _ _ h => h) (Or.inl ⟨by rfl, ?_⟩) ?_ ?_
              rotate_left
              ·intro w'
               go_simp
               with_reducible rfl
              rotate_left
              ·simp only [Act.put, List.setIfInBounds_toArray, List.set_cons_zero, List.set_cons_succ, i64_w, i32_w]
               rfl
              refine pure_ (i := 41) (N := some 7) (v := ?_) (a' := ?_) #[true, true, true, true, true, true, true, true, true, true, true, true, true, true, true, true, true, true, true, true, true, true, true, true, true, true, true, true, true, true, true, true, true, true, true, true, true, true, true, true, true, true] rfl rfl (any_of HT_.out (by kernel_rfl)) (fun _ _ _ h => h) (Or.inl ⟨by rfl, ?_⟩) ?_ ?_
              rotate_left
              ·intro w'
               go_simp
               with_reducible rfl
              rotate_left
              ·simp only [Act.put, List.setIfInBounds_toArray, List.set_cons_zero, List.set_cons_succ, i64_w, i32_w]
               rfl
              refine done_ (done_of HT_.out (by kernel_rfl)) ?_
              obtain ⟨hcz70_0, hcz70_1, hcz70_2, hcz70_3, hcz70_4, hcz70_5, hcz70_6, hcz70_7, hcz70_8, hcz70_9, hcz70_10, hcz70_11, hcz70_12, hcz70_13, hcz70_14, hcz70_15⟩ := cells16 BK140.out
              obtain ⟨hfz70_0, hfz70_1, hfz70_2, hfz70_3, hfz70_4, hfz70_5, hfz70_6, hfz70_7, hfz70_8, hfz70_9, hfz70_10, hfz70_11, hfz70_12, hfz70_13, hfz70_14, hfz70_15⟩ := frozen16 BK140.out
              try go_wp2_with (first | ((with_reducible refine gate_st (ty := 24) rfl ?_); (try (with_reducible refine gate_gd rfl ?_; refine gate_guard (by first | rfl | exact wanted_on rfl rfl rfl (by first | rfl | (simp [*]; done))) ?_; dsimp only)); refine storeC16 rfl rfl rfl rfl rfl (by repeat (first | (with_reducible apply blk_far; case hp => assumption) | (with_reducible apply blk_set) | (with_reducible refine blk_drewN ?_ _) | (with_reducible refine blk_drew ?_) | (with_reducible refine blk_alloc ?_ _) | (first | with_reducible exact BK140.out))) (by first | (simp only [List.setIfInBounds_toArray, List.set_cons_zero, List.set_cons_succ] <;> rfl) | rfl) (by kernel_rfl) rfl ?_) | ((with_reducible refine gate_ld (ty := 24) rfl ?_); (try (with_reducible refine gate_gd rfl ?_; refine gate_guard (by first | rfl | exact wanted_on rfl rfl rfl (by first | rfl | (simp [*]; done))) ?_; dsimp only)); refine load_st rfl rfl rfl (by repeat (first | (with_reducible apply blk_far; case hp => assumption) | (with_reducible apply blk_set) | (with_reducible refine blk_drewN ?_ _) | (with_reducible refine blk_drew ?_) | (with_reducible refine blk_alloc ?_ _) | (first | with_reducible exact BK140.out))) (by first | (simp only [List.setIfInBounds_toArray, List.set_cons_zero, List.set_cons_succ] <;> rfl) | rfl) Tryd.underlying24 rfl (by kernel_rfl) ?_; (try simp only [Act.put, List.setIfInBounds_toArray, List.set_cons_zero, List.set_cons_succ])) | go_in)
              go_ret2
              exact ⟨by first | rfl | (simp [errW_none, errW_some] <;> rfl) | (simp [*, errW_none, errW_some] <;> rfl) | (simp [*, IntKind.wrap_u32]; done) | (simp_all [IntKind.wrap_u32]; done), by repeat (first | (with_reducible first | exact HB.out | apply below_alloc | apply pw_below_drewN | apply below_drew1 | refine below_set ?_ GE140.out) | exact HB.out)⟩
             ·rw [if_neg c54] at H
              exact absurd H (by simp)
            ·rw [if_neg c53] at H
             exact absurd H (by simp)
          ·rw [if_neg c32] at H
           exact absurd H (by simp)
         ·rw [if_neg c30] at H
          exact absurd H (by simp)
        ·rw [if_neg c28] at H
         exact absurd H (by simp)
       ·rw [if_neg c26] at H
        exact absurd H (by simp)
      ·rw [if_neg c24] at H
       exact absurd H (by simp)
     ·rw [if_neg c22] at H
      exact absurd H (by simp)
    ·rw [if_neg c20] at H
     exact absurd H (by simp)
   ·rw [if_neg c18] at H
    exact absurd H (by simp)
 ·rw [if_neg c3] at H
  have c3b0 : (t141 == 0) = false := beq_eq_false_iff_ne.mpr c3
  have c3b1 : (t141 != 0) = true := bne_iff_ne.mpr c3
  simp only [Option.some.injEq, Prod.mk.injEq] at H
  obtain ⟨rfl, rfl⟩ := H
  go_enter Tryd.func9, Tryd.ntmps9
  go_wp2_with (first | ((with_reducible refine gate_st (ty := 24) rfl ?_); (try (with_reducible refine gate_gd rfl ?_; refine gate_guard (by first | rfl | exact wanted_on rfl rfl rfl (by first | rfl | (simp [*]; done))) ?_; dsimp only)); refine storeC16 rfl rfl rfl rfl rfl (by repeat (first | (with_reducible apply blk_far; case hp => assumption) | (with_reducible apply blk_set) | (with_reducible refine blk_drewN ?_ _) | (with_reducible refine blk_drew ?_) | (with_reducible refine blk_alloc ?_ _) | (first | with_reducible exact BK140.out))) (by first | (simp only [List.setIfInBounds_toArray, List.set_cons_zero, List.set_cons_succ] <;> rfl) | rfl) (by kernel_rfl) rfl ?_) | ((with_reducible refine gate_ld (ty := 24) rfl ?_); (try (with_reducible refine gate_gd rfl ?_; refine gate_guard (by first | rfl | exact wanted_on rfl rfl rfl (by first | rfl | (simp [*]; done))) ?_; dsimp only)); refine load_st rfl rfl rfl (by repeat (first | (with_reducible apply blk_far; case hp => assumption) | (with_reducible apply blk_set) | (with_reducible refine blk_drewN ?_ _) | (with_reducible refine blk_drew ?_) | (with_reducible refine blk_alloc ?_ _) | (first | with_reducible exact BK140.out))) (by first | (simp only [List.setIfInBounds_toArray, List.set_cons_zero, List.set_cons_succ] <;> rfl) | rfl) Tryd.underlying24 rfl (by kernel_rfl) ?_; (try simp only [Act.put, List.setIfInBounds_toArray, List.set_cons_zero, List.set_cons_succ])) | ((with_reducible refine gate_dst (N := 1) rfl ?_); refine box_event ?hg (N := 1) ?hd (cs := #[.int .i64 a0_0, .bool a0_1, .bool a0_2, .bool a0_3, .bool a0_4, .bool a0_5, .bool a0_6, .int .i64 a0_7, .int .u64 a0_8, .int .i64 a0_9, .int .u64 a0_10, .int .i64 a0_11, .int .i64 a0_12, .int .i64 a0_13, .int .i64 a0_14, .int .i64 a0_15]) (t := 24) ?hr ?_; (case hd => rfl); (case hg => rfl); (case hr => first | (go_simp; done) | (go_simp; rfl)); intro gb140 hg w71 hbox hb; have n0_ := Aside0.mk (below_step (by repeat (first | (with_reducible first | exact HB.out | apply below_alloc | apply pw_below_drewN | apply below_drew1) | exact HB.out)) hb); have n1_ := Aside0.mk (hbox); have n2_ := Aside0.mk ((by rw [hg]; exact (below_size (by repeat (first | (with_reducible first | exact HB.out | apply below_alloc | apply pw_below_drewN | apply below_drew1) | exact HB.out))) : w.heap.size ≤ gb140)); have n3_ := Aside0.mk ((by rw [hg]; exact (below_size (by repeat (first | (with_reducible first | exact HB.out | apply below_alloc | apply pw_below_drewN | apply below_drew1) | exact HB.out))) : w.heap.size ≤ gb140)); clear HB; have HB := n0_; have BK140 := n1_; have GW140 := n2_; have GE140 := n3_; clear n0_ n1_ n2_ n3_; clear hb hbox hg; obtain ⟨hcz72_0, hcz72_1, hcz72_2, hcz72_3, hcz72_4, hcz72_5, hcz72_6, hcz72_7, hcz72_8, hcz72_9, hcz72_10, hcz72_11, hcz72_12, hcz72_13, hcz72_14, hcz72_15⟩ := cells16 BK140.out; obtain ⟨hfz72_0, hfz72_1, hfz72_2, hfz72_3, hfz72_4, hfz72_5, hfz72_6, hfz72_7, hfz72_8, hfz72_9, hfz72_10, hfz72_11, hfz72_12, hfz72_13, hfz72_14, hfz72_15⟩ := frozen16 BK140.out) | ((with_reducible refine gate_callee (f := 12) rfl ?_); refine goesL_ (some 9) rfl rfl Tryd.func12 (by kernel_rfl) rfl #[.agg #[.int .i64 a0_0, .bool a0_1, .bool a0_2, .bool a0_3, .bool a0_4, .bool a0_5, .bool a0_6, .int .i64 a0_7, .int .u64 a0_8, .int .i64 a0_9, .int .u64 a0_10, .int .i64 a0_11, .int .i64 a0_12, .int .i64 a0_13, .int .i64 a0_14, .int .i64 a0_15]] rfl (by (try simp only [List.map_toArray, List.map_cons, List.map_nil]); first | done | rfl | (simp only [List.length_drop, List.length_take]; rfl)) ?_; (with_reducible refine (gangwayref09_Check.calls k a0_0 a0_1 a0_2 a0_3 a0_4 a0_5 a0_6 a0_7 a0_8 a0_9 a0_10 a0_11 a0_12 a0_13 a0_14 a0_15 t141 _ A2.out).mono ?_); rintro e w73 ⟨rfl, hb⟩; refine ⟨_, rfl, ?_⟩; have n0_ := Aside0.mk (blk_below (g := gb140) (by (with_reducible repeat (first | refine blk_drewN ?_ _ | refine blk_drew ?_ | refine blk_alloc ?_ _)); exact BK140.out) hb); have n1_ := Aside0.mk (below_step (by repeat (first | (with_reducible first | exact HB.out | apply below_alloc | apply pw_below_drewN | apply below_drew1 | refine below_set ?_ GE140.out) | exact HB.out)) hb); clear BK140; clear HB; have BK140 := n0_; have HB := n1_; clear n0_ n1_; obtain ⟨hcy1_140_0, hcy1_140_1, hcy1_140_2, hcy1_140_3, hcy1_140_4, hcy1_140_5, hcy1_140_6, hcy1_140_7, hcy1_140_8, hcy1_140_9, hcy1_140_10, hcy1_140_11, hcy1_140_12, hcy1_140_13, hcy1_140_14, hcy1_140_15⟩ := cells16 BK140.out; (try clear hb); (try clear hb2); (try clear hk); (try clear hi)))
  go_ret2
  exact ⟨by first | rfl | (simp [errW_none, errW_some] <;> rfl) | (simp [*, errW_none, errW_some] <;> rfl) | (simp [*, IntKind.wrap_u32]; done) | (simp_all [IntKind.wrap_u32]; done), by repeat (first | (with_reducible first | exact HB.out | apply below_alloc | apply pw_below_drewN | apply below_drew1 | refine below_set ?_ GE140.out) | exact HB.out)⟩

end Go.Proofs.YtbfjlhjfpmgplaaDoor.P
