-- Written by wip/hprint.py (this session's program) through the kit's print program; hand contracts are marked 'by hand'.
import Derived.Test.YtppaikjbafobbaaDoorPx0
import Derived.Test.YtppaikjbafobbaaDoorPx8
import Derived.Test.YtppaikjbafobbaaDoorPx9
namespace Go.Proofs.YtppaikjbafobbaaDoor.P
open Go.RowKit Go.Proofs.YtppaikjbafobbaaDoorW.PrintWords Go.Proofs.YtppaikjbafobbaaDoorW.PrintLast Go.Proofs.YtppaikjbafobbaaDoorW.PrintMore
attribute [local go_sem] max2_int min2_int max_two min_two max_three min_three max_four min_four   -- for this text's walks alone
set_option linter.unusedVariables false
set_option linter.unusedSimpArgs false

/-! ### gangwayref07_Build: function 10 -/
def gangwayref07_Build.f (k : Nat) (a0 : Int) (a1 : Int) (a2_0 : Int) (a2_1 : Int) (a2_2 : Bool) (a2_3 : ByteArray) : Option (ByteArray × Int) := (gangwayref07_Check.f a2_0 a2_1 a2_2 a2_3).bind fun t146 => (if t146 = 0 then ((gangwayref01_Bytes.f k (IntKind.u64.wrap (a2_0)) 2).bind fun t147 => ((gangwayref01_Bytes.f k (IntKind.u64.wrap (a2_1)) 2).bind fun t148 => (if t147.size + t148.size ≤ 9223372036854775807 then ((gangwayref01_Bytes.f k (IntKind.u64.wrap (wrap64 ((a2_3.size : Int) + 8))) 2).bind fun t149 => (if (t147 ++ t148).size + t149.size ≤ 9223372036854775807 then ((gangwayref03_Head.f k a0 a1 17 (wrap64 ((a2_3.size : Int) + 8))).bind fun t150 => (if t150.size + ((t147 ++ t148) ++ t149).size ≤ 9223372036854775807 then (if (t150 ++ ((t147 ++ t148) ++ t149)).size + 2 ≤ 9223372036854775807 then (if ((t150 ++ ((t147 ++ t148) ++ t149)) ++ (⟨#[0, 0]⟩ : ByteArray)).size + a2_3.size ≤ 9223372036854775807 then ((gangwayref03_Of.f k (((t150 ++ ((t147 ++ t148) ++ t149)) ++ (⟨#[0, 0]⟩ : ByteArray)) ++ a2_3)).bind fun t151 => (if t151 = 0 then (if a2_2 = true then ((gangwayref01_Bytes.f k 0 2).bind fun t152 => (if ((t147 ++ t148) ++ t149).size + t152.size ≤ 9223372036854775807 then (if (((t147 ++ t148) ++ t149) ++ t152).size + a2_3.size ≤ 9223372036854775807 then (some ((((t147 ++ t148) ++ t149) ++ t152) ++ a2_3, 0)) else (none)) else (none))) else ((gangwayref01_Bytes.f k 65535 2).bind fun t153 => (if ((t147 ++ t148) ++ t149).size + t153.size ≤ 9223372036854775807 then (if (((t147 ++ t148) ++ t149) ++ t153).size + a2_3.size ≤ 9223372036854775807 then (some ((((t147 ++ t148) ++ t149) ++ t153) ++ a2_3, 0)) else (none)) else (none)))) else (if a2_2 = true then ((gangwayref01_Bytes.f k 0 2).bind fun t154 => (if ((t147 ++ t148) ++ t149).size + t154.size ≤ 9223372036854775807 then (if (((t147 ++ t148) ++ t149) ++ t154).size + a2_3.size ≤ 9223372036854775807 then (some ((((t147 ++ t148) ++ t149) ++ t154) ++ a2_3, 0)) else (none)) else (none))) else ((gangwayref01_Bytes.f k (IntKind.u64.wrap (t151)) 2).bind fun t155 => (if ((t147 ++ t148) ++ t149).size + t155.size ≤ 9223372036854775807 then (if (((t147 ++ t148) ++ t149) ++ t155).size + a2_3.size ≤ 9223372036854775807 then (some ((((t147 ++ t148) ++ t149) ++ t155) ++ a2_3, 0)) else (none)) else (none)))))) else (none)) else (none)) else (none))) else (none))) else (none)))) else (some ((⟨#[]⟩ : ByteArray), t146)))
theorem gangwayref07_Build.mono : ∀ a0 a1 a2 a3 a4 a5 k, LeO (gangwayref07_Build.f k a0 a1 a2 a3 a4 a5) (gangwayref07_Build.f (k + 1) a0 a1 a2 a3 a4 a5) := by
  intro a0 a1 a2 a3 a4 a5 k
  unfold gangwayref07_Build.f
  repeat' first
      | (with_reducible exact gangwayref01_Bytes.mono _ _ _)
      | (with_reducible exact gangwayref03_Head.mono _ _ _ _ _)
      | (with_reducible exact gangwayref03_Of.mono _ _)
      | (with_reducible exact LeO.refl _)
      | (with_reducible exact LeO.none _)
      | (with_reducible refine LeO.ite ?_ ?_)
      | (with_reducible refine LeO.bind ?_ (fun _ => ?_))
      | exact gangwayref01_Bytes.mono _ _ _
      | exact gangwayref03_Head.mono _ _ _ _ _
      | exact gangwayref03_Of.mono _ _
      | exact LeO.none _
      | refine LeO.ite ?_ ?_
      | refine LeO.bind ?_ (fun _ => ?_)
def gangwayref07_Build.T5 : Bool × List (List Nat × List Nat) := (true, [([], []), ([0], [0]), ([1], [1]), ([2], [2]), ([], []), ([4], [4]), ([5], [5]), ([6, 3], [6]), ([3, 7], [3, 7]), ([], []), ([9], [9]), ([10, 7], [10]), ([8, 11], [8, 11]), ([12, 11, 0, 1, 2, 3, 4, 5, 6, 7, 8, 9, 10, 11, 12], [12])])
def gangwayref07_Build.B5 : List Nat := [0, 1, 3, 7, 0, 16, 48, 127, 255, 0, 512, 1791, 4095, 8191]
theorem gangwayref07_Build.tab5 : rtab .any (opsOf Tryd.f10 5) = gangwayref07_Build.T5 := by kernel_rfl
theorem gangwayref07_Build.bits5 : waitsOk gangwayref07_Build.T5.2 gangwayref07_Build.B5 = true := by kernel_rfl
def gangwayref07_Build.T6 : Bool × List (List Nat × List Nat) := (true, [([], []), ([], []), ([], []), ([0, 1, 2], [0, 1, 2]), ([], []), ([3, 4], [3, 4]), ([5], [5]), ([], []), ([7], [7]), ([6, 8], [6, 8]), ([9, 3], [9]), ([10, 10, 0, 1, 2, 3, 4, 5, 6, 7, 8, 9, 10], [10])])
def gangwayref07_Build.B6 : List Nat := [0, 0, 0, 7, 0, 31, 63, 0, 128, 511, 1023, 2047]
theorem gangwayref07_Build.tab6 : rtab .any (opsOf Tryd.f10 6) = gangwayref07_Build.T6 := by kernel_rfl
theorem gangwayref07_Build.bits6 : waitsOk gangwayref07_Build.T6.2 gangwayref07_Build.B6 = true := by kernel_rfl
def gangwayref07_Build.T11 : Bool × List (List Nat × List Nat) := (true, [([], []), ([], []), ([1], [1]), ([2], [2]), ([0, 3], [0, 3]), ([], []), ([5], [5]), ([4, 6], [4, 6]), ([7, 3, 0, 1, 2, 3, 4, 5, 6, 7], [7]), ([8, 0, 1, 2, 3, 4, 5, 6, 7, 8], [])])
def gangwayref07_Build.B11 : List Nat := [0, 0, 2, 6, 15, 0, 32, 127, 255, 511]
theorem gangwayref07_Build.tab11 : rtab .any (opsOf Tryd.f10 11) = gangwayref07_Build.T11 := by kernel_rfl
theorem gangwayref07_Build.bits11 : waitsOk gangwayref07_Build.T11.2 gangwayref07_Build.B11 = true := by kernel_rfl
set_option maxHeartbeats 8000000 in
set_option maxRecDepth 100000 in
theorem gangwayref07_Build.calls (k : Nat) (a0 : Int) (a1 : Int) (a2_0 : Int) (a2_1 : Int) (a2_2 : Bool) (a2_3 : ByteArray) (r1 : ByteArray) (r2 : Int) (w : World) (h : gangwayref07_Build.f k a0 a1 a2_0 a2_1 a2_2 a2_3 = some (r1, r2)) :
    Calls Tryd.prog 10 #[.int .u32 a0, .int .u32 a1, .agg #[.int .i64 a2_0, .int .i64 a2_1, .bool a2_2, .string a2_3]] w fun e w' => e = .returned (.tuple #[.string r1, .int .i64 r2]) ∧ Below w.heap.size w w' := by
  have hu26 := Tryd.underlying26
  have HB := Aside0.mk (Below.refl w.heap.size w)
  have H : ((gangwayref07_Check.f a2_0 a2_1 a2_2 a2_3).bind fun t146 => (if t146 = 0 then ((gangwayref01_Bytes.f k (IntKind.u64.wrap (a2_0)) 2).bind fun t147 => ((gangwayref01_Bytes.f k (IntKind.u64.wrap (a2_1)) 2).bind fun t148 => (if t147.size + t148.size ≤ 9223372036854775807 then ((gangwayref01_Bytes.f k (IntKind.u64.wrap (wrap64 ((a2_3.size : Int) + 8))) 2).bind fun t149 => (if (t147 ++ t148).size + t149.size ≤ 9223372036854775807 then ((gangwayref03_Head.f k a0 a1 17 (wrap64 ((a2_3.size : Int) + 8))).bind fun t150 => (if t150.size + ((t147 ++ t148) ++ t149).size ≤ 9223372036854775807 then (if (t150 ++ ((t147 ++ t148) ++ t149)).size + 2 ≤ 9223372036854775807 then (if ((t150 ++ ((t147 ++ t148) ++ t149)) ++ (⟨#[0, 0]⟩ : ByteArray)).size + a2_3.size ≤ 9223372036854775807 then ((gangwayref03_Of.f k (((t150 ++ ((t147 ++ t148) ++ t149)) ++ (⟨#[0, 0]⟩ : ByteArray)) ++ a2_3)).bind fun t151 => (if t151 = 0 then (if a2_2 = true then ((gangwayref01_Bytes.f k 0 2).bind fun t152 => (if ((t147 ++ t148) ++ t149).size + t152.size ≤ 9223372036854775807 then (if (((t147 ++ t148) ++ t149) ++ t152).size + a2_3.size ≤ 9223372036854775807 then (some ((((t147 ++ t148) ++ t149) ++ t152) ++ a2_3, 0)) else (none)) else (none))) else ((gangwayref01_Bytes.f k 65535 2).bind fun t153 => (if ((t147 ++ t148) ++ t149).size + t153.size ≤ 9223372036854775807 then (if (((t147 ++ t148) ++ t149) ++ t153).size + a2_3.size ≤ 9223372036854775807 then (some ((((t147 ++ t148) ++ t149) ++ t153) ++ a2_3, 0)) else (none)) else (none)))) else (if a2_2 = true then ((gangwayref01_Bytes.f k 0 2).bind fun t154 => (if ((t147 ++ t148) ++ t149).size + t154.size ≤ 9223372036854775807 then (if (((t147 ++ t148) ++ t149) ++ t154).size + a2_3.size ≤ 9223372036854775807 then (some ((((t147 ++ t148) ++ t149) ++ t154) ++ a2_3, 0)) else (none)) else (none))) else ((gangwayref01_Bytes.f k (IntKind.u64.wrap (t151)) 2).bind fun t155 => (if ((t147 ++ t148) ++ t149).size + t155.size ≤ 9223372036854775807 then (if (((t147 ++ t148) ++ t149) ++ t155).size + a2_3.size ≤ 9223372036854775807 then (some ((((t147 ++ t148) ++ t149) ++ t155) ++ a2_3, 0)) else (none)) else (none)))))) else (none)) else (none)) else (none))) else (none))) else (none)))) else (some ((⟨#[]⟩ : ByteArray), t146)))) = some (r1, r2) := h
  clear h
  replace H := Option.bind_eq_some_iff.mp H
  obtain ⟨t146, A40, H⟩ := H
  replace H : (if t146 = 0 then ((gangwayref01_Bytes.f k (IntKind.u64.wrap (a2_0)) 2).bind fun t147 => ((gangwayref01_Bytes.f k (IntKind.u64.wrap (a2_1)) 2).bind fun t148 => (if t147.size + t148.size ≤ 9223372036854775807 then ((gangwayref01_Bytes.f k (IntKind.u64.wrap (wrap64 ((a2_3.size : Int) + 8))) 2).bind fun t149 => (if (t147 ++ t148).size + t149.size ≤ 9223372036854775807 then ((gangwayref03_Head.f k a0 a1 17 (wrap64 ((a2_3.size : Int) + 8))).bind fun t150 => (if t150.size + ((t147 ++ t148) ++ t149).size ≤ 9223372036854775807 then (if (t150 ++ ((t147 ++ t148) ++ t149)).size + 2 ≤ 9223372036854775807 then (if ((t150 ++ ((t147 ++ t148) ++ t149)) ++ (⟨#[0, 0]⟩ : ByteArray)).size + a2_3.size ≤ 9223372036854775807 then ((gangwayref03_Of.f k (((t150 ++ ((t147 ++ t148) ++ t149)) ++ (⟨#[0, 0]⟩ : ByteArray)) ++ a2_3)).bind fun t151 => (if t151 = 0 then (if a2_2 = true then ((gangwayref01_Bytes.f k 0 2).bind fun t152 => (if ((t147 ++ t148) ++ t149).size + t152.size ≤ 9223372036854775807 then (if (((t147 ++ t148) ++ t149) ++ t152).size + a2_3.size ≤ 9223372036854775807 then (some ((((t147 ++ t148) ++ t149) ++ t152) ++ a2_3, 0)) else (none)) else (none))) else ((gangwayref01_Bytes.f k 65535 2).bind fun t153 => (if ((t147 ++ t148) ++ t149).size + t153.size ≤ 9223372036854775807 then (if (((t147 ++ t148) ++ t149) ++ t153).size + a2_3.size ≤ 9223372036854775807 then (some ((((t147 ++ t148) ++ t149) ++ t153) ++ a2_3, 0)) else (none)) else (none)))) else (if a2_2 = true then ((gangwayref01_Bytes.f k 0 2).bind fun t154 => (if ((t147 ++ t148) ++ t149).size + t154.size ≤ 9223372036854775807 then (if (((t147 ++ t148) ++ t149) ++ t154).size + a2_3.size ≤ 9223372036854775807 then (some ((((t147 ++ t148) ++ t149) ++ t154) ++ a2_3, 0)) else (none)) else (none))) else ((gangwayref01_Bytes.f k (IntKind.u64.wrap (t151)) 2).bind fun t155 => (if ((t147 ++ t148) ++ t149).size + t155.size ≤ 9223372036854775807 then (if (((t147 ++ t148) ++ t149) ++ t155).size + a2_3.size ≤ 9223372036854775807 then (some ((((t147 ++ t148) ++ t149) ++ t155) ++ a2_3, 0)) else (none)) else (none)))))) else (none)) else (none)) else (none))) else (none))) else (none)))) else (some ((⟨#[]⟩ : ByteArray), t146))) = some (r1, r2) := H
  have A4 := Aside0.mk A40
  clear A40
  by_cases c5 : t146 = 0
  · rw [if_pos c5] at H
    have c5b0 : (t146 == 0) = true := beq_iff_eq.mpr c5
    have c5b1 : (t146 != 0) = false := bne_eq_false_iff_eq.mpr c5
    clear c5
    replace H := Option.bind_eq_some_iff.mp H
    obtain ⟨t147, A60, H⟩ := H
    replace H : ((gangwayref01_Bytes.f k (IntKind.u64.wrap (a2_1)) 2).bind fun t148 => (if t147.size + t148.size ≤ 9223372036854775807 then ((gangwayref01_Bytes.f k (IntKind.u64.wrap (wrap64 ((a2_3.size : Int) + 8))) 2).bind fun t149 => (if (t147 ++ t148).size + t149.size ≤ 9223372036854775807 then ((gangwayref03_Head.f k a0 a1 17 (wrap64 ((a2_3.size : Int) + 8))).bind fun t150 => (if t150.size + ((t147 ++ t148) ++ t149).size ≤ 9223372036854775807 then (if (t150 ++ ((t147 ++ t148) ++ t149)).size + 2 ≤ 9223372036854775807 then (if ((t150 ++ ((t147 ++ t148) ++ t149)) ++ (⟨#[0, 0]⟩ : ByteArray)).size + a2_3.size ≤ 9223372036854775807 then ((gangwayref03_Of.f k (((t150 ++ ((t147 ++ t148) ++ t149)) ++ (⟨#[0, 0]⟩ : ByteArray)) ++ a2_3)).bind fun t151 => (if t151 = 0 then (if a2_2 = true then ((gangwayref01_Bytes.f k 0 2).bind fun t152 => (if ((t147 ++ t148) ++ t149).size + t152.size ≤ 9223372036854775807 then (if (((t147 ++ t148) ++ t149) ++ t152).size + a2_3.size ≤ 9223372036854775807 then (some ((((t147 ++ t148) ++ t149) ++ t152) ++ a2_3, 0)) else (none)) else (none))) else ((gangwayref01_Bytes.f k 65535 2).bind fun t153 => (if ((t147 ++ t148) ++ t149).size + t153.size ≤ 9223372036854775807 then (if (((t147 ++ t148) ++ t149) ++ t153).size + a2_3.size ≤ 9223372036854775807 then (some ((((t147 ++ t148) ++ t149) ++ t153) ++ a2_3, 0)) else (none)) else (none)))) else (if a2_2 = true then ((gangwayref01_Bytes.f k 0 2).bind fun t154 => (if ((t147 ++ t148) ++ t149).size + t154.size ≤ 9223372036854775807 then (if (((t147 ++ t148) ++ t149) ++ t154).size + a2_3.size ≤ 9223372036854775807 then (some ((((t147 ++ t148) ++ t149) ++ t154) ++ a2_3, 0)) else (none)) else (none))) else ((gangwayref01_Bytes.f k (IntKind.u64.wrap (t151)) 2).bind fun t155 => (if ((t147 ++ t148) ++ t149).size + t155.size ≤ 9223372036854775807 then (if (((t147 ++ t148) ++ t149) ++ t155).size + a2_3.size ≤ 9223372036854775807 then (some ((((t147 ++ t148) ++ t149) ++ t155) ++ a2_3, 0)) else (none)) else (none)))))) else (none)) else (none)) else (none))) else (none))) else (none))) = some (r1, r2) := H
    have A6 := Aside0.mk A60
    clear A60
    replace H := Option.bind_eq_some_iff.mp H
    obtain ⟨t148, A70, H⟩ := H
    replace H : (if t147.size + t148.size ≤ 9223372036854775807 then ((gangwayref01_Bytes.f k (IntKind.u64.wrap (wrap64 ((a2_3.size : Int) + 8))) 2).bind fun t149 => (if (t147 ++ t148).size + t149.size ≤ 9223372036854775807 then ((gangwayref03_Head.f k a0 a1 17 (wrap64 ((a2_3.size : Int) + 8))).bind fun t150 => (if t150.size + ((t147 ++ t148) ++ t149).size ≤ 9223372036854775807 then (if (t150 ++ ((t147 ++ t148) ++ t149)).size + 2 ≤ 9223372036854775807 then (if ((t150 ++ ((t147 ++ t148) ++ t149)) ++ (⟨#[0, 0]⟩ : ByteArray)).size + a2_3.size ≤ 9223372036854775807 then ((gangwayref03_Of.f k (((t150 ++ ((t147 ++ t148) ++ t149)) ++ (⟨#[0, 0]⟩ : ByteArray)) ++ a2_3)).bind fun t151 => (if t151 = 0 then (if a2_2 = true then ((gangwayref01_Bytes.f k 0 2).bind fun t152 => (if ((t147 ++ t148) ++ t149).size + t152.size ≤ 9223372036854775807 then (if (((t147 ++ t148) ++ t149) ++ t152).size + a2_3.size ≤ 9223372036854775807 then (some ((((t147 ++ t148) ++ t149) ++ t152) ++ a2_3, 0)) else (none)) else (none))) else ((gangwayref01_Bytes.f k 65535 2).bind fun t153 => (if ((t147 ++ t148) ++ t149).size + t153.size ≤ 9223372036854775807 then (if (((t147 ++ t148) ++ t149) ++ t153).size + a2_3.size ≤ 9223372036854775807 then (some ((((t147 ++ t148) ++ t149) ++ t153) ++ a2_3, 0)) else (none)) else (none)))) else (if a2_2 = true then ((gangwayref01_Bytes.f k 0 2).bind fun t154 => (if ((t147 ++ t148) ++ t149).size + t154.size ≤ 9223372036854775807 then (if (((t147 ++ t148) ++ t149) ++ t154).size + a2_3.size ≤ 9223372036854775807 then (some ((((t147 ++ t148) ++ t149) ++ t154) ++ a2_3, 0)) else (none)) else (none))) else ((gangwayref01_Bytes.f k (IntKind.u64.wrap (t151)) 2).bind fun t155 => (if ((t147 ++ t148) ++ t149).size + t155.size ≤ 9223372036854775807 then (if (((t147 ++ t148) ++ t149) ++ t155).size + a2_3.size ≤ 9223372036854775807 then (some ((((t147 ++ t148) ++ t149) ++ t155) ++ a2_3, 0)) else (none)) else (none)))))) else (none)) else (none)) else (none))) else (none))) else (none)) = some (r1, r2) := H
    have A7 := Aside0.mk A70
    clear A70
    by_cases c8 : t147.size + t148.size ≤ 9223372036854775807
    · rw [if_pos c8] at H
      have c8b0 := eq_true c8
      have c8b1 : decide (t147.size + t148.size ≤ 9223372036854775807) = true := decide_eq_true c8
      try have c8b2 : (9223372036854775807 < t147.size + t148.size) = False := eq_false (Nat.not_lt.2 c8)
      replace H := Option.bind_eq_some_iff.mp H
      obtain ⟨t149, A90, H⟩ := H
      replace H : (if (t147 ++ t148).size + t149.size ≤ 9223372036854775807 then ((gangwayref03_Head.f k a0 a1 17 (wrap64 ((a2_3.size : Int) + 8))).bind fun t150 => (if t150.size + ((t147 ++ t148) ++ t149).size ≤ 9223372036854775807 then (if (t150 ++ ((t147 ++ t148) ++ t149)).size + 2 ≤ 9223372036854775807 then (if ((t150 ++ ((t147 ++ t148) ++ t149)) ++ (⟨#[0, 0]⟩ : ByteArray)).size + a2_3.size ≤ 9223372036854775807 then ((gangwayref03_Of.f k (((t150 ++ ((t147 ++ t148) ++ t149)) ++ (⟨#[0, 0]⟩ : ByteArray)) ++ a2_3)).bind fun t151 => (if t151 = 0 then (if a2_2 = true then ((gangwayref01_Bytes.f k 0 2).bind fun t152 => (if ((t147 ++ t148) ++ t149).size + t152.size ≤ 9223372036854775807 then (if (((t147 ++ t148) ++ t149) ++ t152).size + a2_3.size ≤ 9223372036854775807 then (some ((((t147 ++ t148) ++ t149) ++ t152) ++ a2_3, 0)) else (none)) else (none))) else ((gangwayref01_Bytes.f k 65535 2).bind fun t153 => (if ((t147 ++ t148) ++ t149).size + t153.size ≤ 9223372036854775807 then (if (((t147 ++ t148) ++ t149) ++ t153).size + a2_3.size ≤ 9223372036854775807 then (some ((((t147 ++ t148) ++ t149) ++ t153) ++ a2_3, 0)) else (none)) else (none)))) else (if a2_2 = true then ((gangwayref01_Bytes.f k 0 2).bind fun t154 => (if ((t147 ++ t148) ++ t149).size + t154.size ≤ 9223372036854775807 then (if (((t147 ++ t148) ++ t149) ++ t154).size + a2_3.size ≤ 9223372036854775807 then (some ((((t147 ++ t148) ++ t149) ++ t154) ++ a2_3, 0)) else (none)) else (none))) else ((gangwayref01_Bytes.f k (IntKind.u64.wrap (t151)) 2).bind fun t155 => (if ((t147 ++ t148) ++ t149).size + t155.size ≤ 9223372036854775807 then (if (((t147 ++ t148) ++ t149) ++ t155).size + a2_3.size ≤ 9223372036854775807 then (some ((((t147 ++ t148) ++ t149) ++ t155) ++ a2_3, 0)) else (none)) else (none)))))) else (none)) else (none)) else (none))) else (none)) = some (r1, r2) := H
      have A9 := Aside0.mk A90
      clear A90
      by_cases c10 : (t147 ++ t148).size + t149.size ≤ 9223372036854775807
      · rw [if_pos c10] at H
        have c10b0 := eq_true c10
        have c10b1 : decide ((t147 ++ t148).size + t149.size ≤ 9223372036854775807) = true := decide_eq_true c10
        have c10z := c10
        simp only [ByteArray.size_append] at c10z
        have c10z1 := eq_true c10z
        have c10z2 := eq_false (Nat.not_lt.2 c10z)
        try have c10b2 : (9223372036854775807 < (t147 ++ t148).size + t149.size) = False := eq_false (Nat.not_lt.2 c10)
        replace H := Option.bind_eq_some_iff.mp H
        obtain ⟨t150, A110, H⟩ := H
        replace H : (if t150.size + ((t147 ++ t148) ++ t149).size ≤ 9223372036854775807 then (if (t150 ++ ((t147 ++ t148) ++ t149)).size + 2 ≤ 9223372036854775807 then (if ((t150 ++ ((t147 ++ t148) ++ t149)) ++ (⟨#[0, 0]⟩ : ByteArray)).size + a2_3.size ≤ 9223372036854775807 then ((gangwayref03_Of.f k (((t150 ++ ((t147 ++ t148) ++ t149)) ++ (⟨#[0, 0]⟩ : ByteArray)) ++ a2_3)).bind fun t151 => (if t151 = 0 then (if a2_2 = true then ((gangwayref01_Bytes.f k 0 2).bind fun t152 => (if ((t147 ++ t148) ++ t149).size + t152.size ≤ 9223372036854775807 then (if (((t147 ++ t148) ++ t149) ++ t152).size + a2_3.size ≤ 9223372036854775807 then (some ((((t147 ++ t148) ++ t149) ++ t152) ++ a2_3, 0)) else (none)) else (none))) else ((gangwayref01_Bytes.f k 65535 2).bind fun t153 => (if ((t147 ++ t148) ++ t149).size + t153.size ≤ 9223372036854775807 then (if (((t147 ++ t148) ++ t149) ++ t153).size + a2_3.size ≤ 9223372036854775807 then (some ((((t147 ++ t148) ++ t149) ++ t153) ++ a2_3, 0)) else (none)) else (none)))) else (if a2_2 = true then ((gangwayref01_Bytes.f k 0 2).bind fun t154 => (if ((t147 ++ t148) ++ t149).size + t154.size ≤ 9223372036854775807 then (if (((t147 ++ t148) ++ t149) ++ t154).size + a2_3.size ≤ 9223372036854775807 then (some ((((t147 ++ t148) ++ t149) ++ t154) ++ a2_3, 0)) else (none)) else (none))) else ((gangwayref01_Bytes.f k (IntKind.u64.wrap (t151)) 2).bind fun t155 => (if ((t147 ++ t148) ++ t149).size + t155.size ≤ 9223372036854775807 then (if (((t147 ++ t148) ++ t149) ++ t155).size + a2_3.size ≤ 9223372036854775807 then (some ((((t147 ++ t148) ++ t149) ++ t155) ++ a2_3, 0)) else (none)) else (none)))))) else (none)) else (none)) else (none)) = some (r1, r2) := H
        have A11 := Aside0.mk A110
        clear A110
        by_cases c12 : t150.size + ((t147 ++ t148) ++ t149).size ≤ 9223372036854775807
        · rw [if_pos c12] at H
          have c12b0 := eq_true c12
          have c12b1 : decide (t150.size + ((t147 ++ t148) ++ t149).size ≤ 9223372036854775807) = true := decide_eq_true c12
          have c12z := c12
          simp only [ByteArray.size_append] at c12z
          have c12z1 := eq_true c12z
          have c12z2 := eq_false (Nat.not_lt.2 c12z)
          try have c12b2 : (9223372036854775807 < t150.size + ((t147 ++ t148) ++ t149).size) = False := eq_false (Nat.not_lt.2 c12)
          by_cases c13 : (t150 ++ ((t147 ++ t148) ++ t149)).size + 2 ≤ 9223372036854775807
          · rw [if_pos c13] at H
            have c13b0 := eq_true c13
            have c13b1 : decide ((t150 ++ ((t147 ++ t148) ++ t149)).size + 2 ≤ 9223372036854775807) = true := decide_eq_true c13
            have c13z := c13
            simp only [ByteArray.size_append] at c13z
            have c13z1 := eq_true c13z
            have c13z2 := eq_false (Nat.not_lt.2 c13z)
            try have c13b2 : (9223372036854775807 < (t150 ++ ((t147 ++ t148) ++ t149)).size + 2) = False := eq_false (Nat.not_lt.2 c13)
            by_cases c14 : ((t150 ++ ((t147 ++ t148) ++ t149)) ++ (⟨#[0, 0]⟩ : ByteArray)).size + a2_3.size ≤ 9223372036854775807
            · rw [if_pos c14] at H
              have c14b0 := eq_true c14
              have c14b1 : decide (((t150 ++ ((t147 ++ t148) ++ t149)) ++ (⟨#[0, 0]⟩ : ByteArray)).size + a2_3.size ≤ 9223372036854775807) = true := decide_eq_true c14
              have c14z := c14
              simp only [ByteArray.size_append] at c14z
              have c14z1 := eq_true c14z
              have c14z2 := eq_false (Nat.not_lt.2 c14z)
              try have c14b2 : (9223372036854775807 < ((t150 ++ ((t147 ++ t148) ++ t149)) ++ (⟨#[0, 0]⟩ : ByteArray)).size + a2_3.size) = False := eq_false (Nat.not_lt.2 c14)
              replace H := Option.bind_eq_some_iff.mp H
              obtain ⟨t151, A150, H⟩ := H
              replace H : (if t151 = 0 then (if a2_2 = true then ((gangwayref01_Bytes.f k 0 2).bind fun t152 => (if ((t147 ++ t148) ++ t149).size + t152.size ≤ 9223372036854775807 then (if (((t147 ++ t148) ++ t149) ++ t152).size + a2_3.size ≤ 9223372036854775807 then (some ((((t147 ++ t148) ++ t149) ++ t152) ++ a2_3, 0)) else (none)) else (none))) else ((gangwayref01_Bytes.f k 65535 2).bind fun t153 => (if ((t147 ++ t148) ++ t149).size + t153.size ≤ 9223372036854775807 then (if (((t147 ++ t148) ++ t149) ++ t153).size + a2_3.size ≤ 9223372036854775807 then (some ((((t147 ++ t148) ++ t149) ++ t153) ++ a2_3, 0)) else (none)) else (none)))) else (if a2_2 = true then ((gangwayref01_Bytes.f k 0 2).bind fun t154 => (if ((t147 ++ t148) ++ t149).size + t154.size ≤ 9223372036854775807 then (if (((t147 ++ t148) ++ t149) ++ t154).size + a2_3.size ≤ 9223372036854775807 then (some ((((t147 ++ t148) ++ t149) ++ t154) ++ a2_3, 0)) else (none)) else (none))) else ((gangwayref01_Bytes.f k (IntKind.u64.wrap (t151)) 2).bind fun t155 => (if ((t147 ++ t148) ++ t149).size + t155.size ≤ 9223372036854775807 then (if (((t147 ++ t148) ++ t149) ++ t155).size + a2_3.size ≤ 9223372036854775807 then (some ((((t147 ++ t148) ++ t149) ++ t155) ++ a2_3, 0)) else (none)) else (none))))) = some (r1, r2) := H
              have A15 := Aside0.mk A150
              clear A150
              by_cases c16 : t151 = 0
              · rw [if_pos c16] at H
                have c16b0 : (t151 == 0) = true := beq_iff_eq.mpr c16
                have c16b1 : (t151 != 0) = false := bne_eq_false_iff_eq.mpr c16
                clear c16
                by_cases c17 : a2_2 = true
                · subst c17
                  have H1 : ((gangwayref01_Bytes.f k 0 2).bind fun t152 => (if ((t147 ++ t148) ++ t149).size + t152.size ≤ 9223372036854775807 then (if (((t147 ++ t148) ++ t149) ++ t152).size + a2_3.size ≤ 9223372036854775807 then (some ((((t147 ++ t148) ++ t149) ++ t152) ++ a2_3, 0)) else (none)) else (none))) = some (r1, r2) := by rw [if_pos rfl] at H; exact H
                  clear H
                  have H := H1
                  clear H1
                  replace H := Option.bind_eq_some_iff.mp H
                  obtain ⟨t152, A180, H⟩ := H
                  replace H : (if ((t147 ++ t148) ++ t149).size + t152.size ≤ 9223372036854775807 then (if (((t147 ++ t148) ++ t149) ++ t152).size + a2_3.size ≤ 9223372036854775807 then (some ((((t147 ++ t148) ++ t149) ++ t152) ++ a2_3, 0)) else (none)) else (none)) = some (r1, r2) := H
                  have A18 := Aside0.mk A180
                  clear A180
                  by_cases c19 : ((t147 ++ t148) ++ t149).size + t152.size ≤ 9223372036854775807
                  · rw [if_pos c19] at H
                    have c19b0 := eq_true c19
                    have c19b1 : decide (((t147 ++ t148) ++ t149).size + t152.size ≤ 9223372036854775807) = true := decide_eq_true c19
                    have c19z := c19
                    simp only [ByteArray.size_append] at c19z
                    have c19z1 := eq_true c19z
                    have c19z2 := eq_false (Nat.not_lt.2 c19z)
                    try have c19b2 : (9223372036854775807 < ((t147 ++ t148) ++ t149).size + t152.size) = False := eq_false (Nat.not_lt.2 c19)
                    by_cases c20 : (((t147 ++ t148) ++ t149) ++ t152).size + a2_3.size ≤ 9223372036854775807
                    · rw [if_pos c20] at H
                      have c20b0 := eq_true c20
                      have c20b1 : decide ((((t147 ++ t148) ++ t149) ++ t152).size + a2_3.size ≤ 9223372036854775807) = true := decide_eq_true c20
                      have c20z := c20
                      simp only [ByteArray.size_append] at c20z
                      have c20z1 := eq_true c20z
                      have c20z2 := eq_false (Nat.not_lt.2 c20z)
                      try have c20b2 : (9223372036854775807 < (((t147 ++ t148) ++ t149) ++ t152).size + a2_3.size) = False := eq_false (Nat.not_lt.2 c20)
                      simp only [Option.some.injEq, Prod.mk.injEq] at H
                      obtain ⟨rfl, rfl⟩ := H
                      go_enter Tryd.func10, Tryd.ntmps10
                      try go_wp2_with (first | ((with_reducible refine gate_dst (N := 5) rfl ?_); refine box_event ?hg (N := 5) ?hd (cs := #[.int .i64 a2_0, .int .i64 a2_1, .bool true, .string a2_3]) (t := 26) ?hr ?_; (case hd => rfl); (case hg => rfl); (case hr => first | (go_simp; done) | (go_simp; rfl)); intro gb145 hg w21 hbox hb; have n0_ := Aside0.mk (below_step (by repeat (first | (with_reducible first | exact HB.out | apply below_alloc | apply pw_below_drewN | apply below_drew1) | exact HB.out)) hb); have n1_ := Aside0.mk (hbox); have n2_ := Aside0.mk ((by rw [hg]; exact (below_size (by repeat (first | (with_reducible first | exact HB.out | apply below_alloc | apply pw_below_drewN | apply below_drew1) | exact HB.out))) : w.heap.size ≤ gb145)); have n3_ := Aside0.mk ((by rw [hg]; exact (below_size (by repeat (first | (with_reducible first | exact HB.out | apply below_alloc | apply pw_below_drewN | apply below_drew1) | exact HB.out))) : w.heap.size ≤ gb145)); clear HB; have HB := n0_; have BK145 := n1_; have GW145 := n2_; have GE145 := n3_; clear n0_ n1_ n2_ n3_; clear hb hbox hg; have hcz22_0 : w21.cell? ⟨gb145, 0, none⟩ = some (.int .i64 a2_0) := (blk_cell BK145.out 0).trans rfl; have hcz22_1 : w21.cell? ⟨gb145, 1, none⟩ = some (.int .i64 a2_1) := (blk_cell BK145.out 1).trans rfl; have hcz22_2 : w21.cell? ⟨gb145, 2, none⟩ = some (.bool true) := (blk_cell BK145.out 2).trans rfl; have hcz22_3 : w21.cell? ⟨gb145, 3, none⟩ = some (.string a2_3) := (blk_cell BK145.out 3).trans rfl; have hfz22_0 := blk_frozen BK145.out 0; have hfz22_1 := blk_frozen BK145.out 1; have hfz22_2 := blk_frozen BK145.out 2; have hfz22_3 := blk_frozen BK145.out 3) | ((with_reducible refine gate_callee (f := 13) rfl ?_); refine goesL_ (some 13) rfl rfl Tryd.func13 (by kernel_rfl) rfl #[.agg #[.int .i64 a2_0, .int .i64 a2_1, .bool true, .string a2_3]] rfl (by (try simp only [List.map_toArray, List.map_cons, List.map_nil]); first | done | rfl | (simp only [List.length_drop, List.length_take]; rfl)) ?_; (with_reducible refine (gangwayref07_Check.calls a2_0 a2_1 true a2_3 t146 _ A4.out).mono ?_); rintro e w23 ⟨rfl, hb⟩; refine ⟨_, rfl, ?_⟩; have n0_ := Aside0.mk (blk_below (g := gb145) (o := .cells #[.int .i64 a2_0, .int .i64 a2_1, .bool true, .string a2_3] 26 (0, 0)) (by (with_reducible repeat (first | refine blk_drewN ?_ _ | refine blk_drew ?_ | refine blk_alloc ?_ _)); exact BK145.out) hb); have n1_ := Aside0.mk (below_step (by repeat (first | (with_reducible first | exact HB.out | apply below_alloc | apply pw_below_drewN | apply below_drew1 | refine below_set ?_ GE145.out) | exact HB.out)) hb); clear BK145; clear HB; have BK145 := n0_; have HB := n1_; clear n0_ n1_; have hcy1_145_0 := (show World.cell? _ ⟨gb145, 0, none⟩ = some (.int .i64 a2_0) from (blk_cell BK145.out 0).trans rfl); have hcy1_145_1 := (show World.cell? _ ⟨gb145, 1, none⟩ = some (.int .i64 a2_1) from (blk_cell BK145.out 1).trans rfl); have hcy1_145_2 := (show World.cell? _ ⟨gb145, 2, none⟩ = some (.bool true) from (blk_cell BK145.out 2).trans rfl); have hcy1_145_3 := (show World.cell? _ ⟨gb145, 3, none⟩ = some (.string a2_3) from (blk_cell BK145.out 3).trans rfl); (try clear hb); (try clear hb2); (try clear hk); (try clear hi); have hcz24_0 : w23.cell? ⟨gb145, 0, none⟩ = some (.int .i64 a2_0) := (blk_cell BK145.out 0).trans rfl; have hcz24_1 : w23.cell? ⟨gb145, 1, none⟩ = some (.int .i64 a2_1) := (blk_cell BK145.out 1).trans rfl; have hcz24_2 : w23.cell? ⟨gb145, 2, none⟩ = some (.bool true) := (blk_cell BK145.out 2).trans rfl; have hcz24_3 : w23.cell? ⟨gb145, 3, none⟩ = some (.string a2_3) := (blk_cell BK145.out 3).trans rfl; have hfz24_0 := blk_frozen BK145.out 0; have hfz24_1 := blk_frozen BK145.out 1; have hfz24_2 := blk_frozen BK145.out 2; have hfz24_3 := blk_frozen BK145.out 3))
                      have n0_ := Aside0.mk (blk_drew BK145.out)
                      have n1_ := Aside0.mk (below_drew1 HB.out)
                      clear BK145
                      clear HB
                      have BK145 := n0_
                      have HB := n1_
                      clear n0_ n1_
                      refine start_ (n := 14) (S := fun w' => w'.cell? ⟨gb145, 0, none⟩ = some (.int .i64 a2_0) ∧ w'.cell? ⟨gb145, 1, none⟩ = some (.int .i64 a2_1) ∧ w'.cell? ⟨gb145, 2, none⟩ = some (.bool true) ∧ w'.cell? ⟨gb145, 3, none⟩ = some (.string a2_3)) (ds := []) #[false, false, false, false, false, false, false, false, false, false, false, false, false, false] (by kernel_rfl) rfl rfl ⟨(blk_cell BK145.out 0).trans rfl, (blk_cell BK145.out 1).trans rfl, (blk_cell BK145.out 2).trans rfl, (blk_cell BK145.out 3).trans rfl⟩ (fun hHeld => ?_); refine with_tabW gangwayref07_Build.tab5 gangwayref07_Build.bits5 (fun HT_ HW_ => ?_)
                      generalize w23.drew = w25 at BK145 HB hHeld ⊢
                      refine pure_ (i := 0) (N := some 21) (v := ?_) (a' := ?_) #[true, false, false, false, false, false, false, false, false, false, false, false, false, false] rfl rfl (any_of HT_.out (by kernel_rfl)) (fun _ _ _ h => h) (Or.inl ⟨by rfl, ?_⟩) ?_ ?_
                      rotate_left
                      · intro w'
                        go_simp
                        first | with_reducible rfl | (rw [if_neg (by have hz0_ : (⟨#[]⟩ : ByteArray).size = 0 := rfl; have hz1_ : (⟨#[0, 0]⟩ : ByteArray).size = 2 := rfl; (try simp only [decide_eq_true_eq, ByteArray.size_append, ByteArray.size_extract, eq_iff_iff, iff_true, iff_false, Nat.not_lt] at *); omega)]; try with_reducible rfl)
                      rotate_left
                      · simp only [Act.put, List.setIfInBounds_toArray, List.set_cons_zero, List.set_cons_succ, i64_w, i32_w]
                        rfl
                      refine pure_ (i := 4) (N := some 25) (v := ?_) (a' := ?_) #[true, false, false, false, true, false, false, false, false, false, false, false, false, false] rfl rfl (any_of HT_.out (by kernel_rfl)) (fun _ _ _ h => h) (Or.inl ⟨by rfl, ?_⟩) ?_ ?_
                      rotate_left
                      · intro w'
                        go_simp
                        first | with_reducible rfl | (rw [if_neg (by have hz0_ : (⟨#[]⟩ : ByteArray).size = 0 := rfl; have hz1_ : (⟨#[0, 0]⟩ : ByteArray).size = 2 := rfl; (try simp only [decide_eq_true_eq, ByteArray.size_append, ByteArray.size_extract, eq_iff_iff, iff_true, iff_false, Nat.not_lt] at *); omega)]; try with_reducible rfl)
                      rotate_left
                      · simp only [Act.put, List.setIfInBounds_toArray, List.set_cons_zero, List.set_cons_succ, i64_w, i32_w]
                        rfl
                      refine pure_ (i := 9) (N := some 30) (v := ?_) (a' := ?_) #[true, false, false, false, true, false, false, false, false, true, false, false, false, false] rfl rfl (any_of HT_.out (by kernel_rfl)) (fun _ _ _ h => h) (Or.inl ⟨by rfl, ?_⟩) ?_ ?_
                      rotate_left
                      · intro w'
                        go_simp
                        first | with_reducible rfl | (rw [if_neg (by have hz0_ : (⟨#[]⟩ : ByteArray).size = 0 := rfl; have hz1_ : (⟨#[0, 0]⟩ : ByteArray).size = 2 := rfl; (try simp only [decide_eq_true_eq, ByteArray.size_append, ByteArray.size_extract, eq_iff_iff, iff_true, iff_false, Nat.not_lt] at *); omega)]; try with_reducible rfl)
                      rotate_left
                      · simp only [Act.put, List.setIfInBounds_toArray, List.set_cons_zero, List.set_cons_succ, i64_w, i32_w]
                        rfl
                      refine pure_ (i := 10) (N := some 31) (v := ?_) (a' := ?_) #[true, false, false, false, true, false, false, false, false, true, true, false, false, false] rfl rfl (any_of HT_.out (by kernel_rfl)) (fun _ _ _ h => h) (Or.inl ⟨by rfl, ?_⟩) ?_ ?_
                      rotate_left
                      · intro w'
                        go_simp
                        first | with_reducible rfl | (rw [if_neg (by have hz0_ : (⟨#[]⟩ : ByteArray).size = 0 := rfl; have hz1_ : (⟨#[0, 0]⟩ : ByteArray).size = 2 := rfl; (try simp only [decide_eq_true_eq, ByteArray.size_append, ByteArray.size_extract, eq_iff_iff, iff_true, iff_false, Nat.not_lt] at *); omega)]; try with_reducible rfl)
                      rotate_left
                      · simp only [Act.put, List.setIfInBounds_toArray, List.set_cons_zero, List.set_cons_succ, i64_w, i32_w]
                        rfl
                      refine take_ (i := 1) (N := some 22) (v := ?_) (a' := ?_) #[true, true, false, false, true, false, false, false, false, true, true, false, false, false] rfl rfl (take_ofW HT_.out HW_.out (by kernel_rfl)) (fun _ _ _ h => h) (Or.inl ⟨by rfl, ?_⟩) hHeld ?_ ?_
                      rotate_left
                      · rintro w' ⟨s0, s1, s2, s3⟩
                        go_simp
                        with_reducible rfl
                      rotate_left
                      · simp only [Act.put, List.setIfInBounds_toArray, List.set_cons_zero, List.set_cons_succ, i64_w, i32_w]
                        rfl
                      refine pure_ (i := 2) (N := some 23) (v := ?_) (a' := ?_) #[true, true, true, false, true, false, false, false, false, true, true, false, false, false] rfl rfl (any_of HT_.out (by kernel_rfl)) (fun _ _ _ h => h) (Or.inl ⟨by rfl, ?_⟩) ?_ ?_
                      rotate_left
                      · intro w'
                        go_simp
                        first | with_reducible rfl | (rw [if_neg (by have hz0_ : (⟨#[]⟩ : ByteArray).size = 0 := rfl; have hz1_ : (⟨#[0, 0]⟩ : ByteArray).size = 2 := rfl; (try simp only [decide_eq_true_eq, ByteArray.size_append, ByteArray.size_extract, eq_iff_iff, iff_true, iff_false, Nat.not_lt] at *); omega)]; try with_reducible rfl)
                      rotate_left
                      · simp only [Act.put, List.setIfInBounds_toArray, List.set_cons_zero, List.set_cons_succ, i64_w, i32_w]
                        rfl
                      refine take_ (i := 5) (N := some 26) (v := ?_) (a' := ?_) #[true, true, true, false, true, true, false, false, false, true, true, false, false, false] rfl rfl (take_ofW HT_.out HW_.out (by kernel_rfl)) (fun _ _ _ h => h) (Or.inl ⟨by rfl, ?_⟩) hHeld ?_ ?_
                      rotate_left
                      · rintro w' ⟨s0, s1, s2, s3⟩
                        go_simp
                        with_reducible rfl
                      rotate_left
                      · simp only [Act.put, List.setIfInBounds_toArray, List.set_cons_zero, List.set_cons_succ, i64_w, i32_w]
                        rfl
                      refine pure_ (i := 6) (N := some 27) (v := ?_) (a' := ?_) #[true, true, true, false, true, true, true, false, false, true, true, false, false, false] rfl rfl (any_of HT_.out (by kernel_rfl)) (fun _ _ _ h => h) (Or.inl ⟨by rfl, ?_⟩) ?_ ?_
                      rotate_left
                      · intro w'
                        go_simp
                        first | with_reducible rfl | (rw [if_neg (by have hz0_ : (⟨#[]⟩ : ByteArray).size = 0 := rfl; have hz1_ : (⟨#[0, 0]⟩ : ByteArray).size = 2 := rfl; (try simp only [decide_eq_true_eq, ByteArray.size_append, ByteArray.size_extract, eq_iff_iff, iff_true, iff_false, Nat.not_lt] at *); omega)]; try with_reducible rfl)
                      rotate_left
                      · simp only [Act.put, List.setIfInBounds_toArray, List.set_cons_zero, List.set_cons_succ, i64_w, i32_w]
                        rfl
                      refine one_ (i := 3) (N := some 24) #[true, true, true, true, true, true, true, false, false, true, true, false, false, false] rfl rfl (one_of HT_.out (by kernel_rfl)) (by decide) (fun K hK => ?_)
                      refine goes_ Tryd.func19 (by kernel_rfl) rfl #[.int .u64 (IntKind.u64.wrap (a2_0)), .int .i64 2] (by first | rfl | exact wanted_on rfl rfl rfl (by first | rfl | (simp [*]; done) | (simp [*, IntKind.wrap_u32]; done))) rfl rfl (by (try simp only [List.map_toArray, List.map_cons, List.map_nil]); first | done | rfl | (simp only [List.length_drop, List.length_take]; rfl)) ?_
                      with_reducible refine (gangwayref01_Bytes.calls k (IntKind.u64.wrap (a2_0)) 2 t147 _ A6.out).mono ?_
                      rintro e w26 ⟨rfl, hb⟩
                      refine ⟨_, rfl, ?_⟩
                      have n0_ := Aside0.mk (blk_below (g := gb145) (o := .cells #[.int .i64 a2_0, .int .i64 a2_1, .bool true, .string a2_3] 26 (0, 0)) (by (with_reducible repeat (first | refine blk_drewN ?_ _ | refine blk_drew ?_ | refine blk_alloc ?_ _)); exact BK145.out) hb)
                      have n1_ := Aside0.mk (below_step (by repeat (first | (with_reducible first | exact HB.out | apply below_alloc | apply pw_below_drewN | apply below_drew1 | refine below_set ?_ GE145.out) | exact HB.out)) hb)
                      clear BK145
                      clear HB
                      have BK145 := n0_
                      have HB := n1_
                      clear n0_ n1_
                      (try clear hb)
                      (try clear hb2)
                      (try clear hk)
                      (try clear hi)
                      refine hK.out _ _ ⟨(blk_cell BK145.out 0).trans rfl, (blk_cell BK145.out 1).trans rfl, (blk_cell BK145.out 2).trans rfl, (blk_cell BK145.out 3).trans rfl⟩ (fun hHeld => ?_)
                      clear hK K
                      refine norm_ (a' := ?_) ?_ ?_
                      rotate_left
                      · show Act.put _ (some 24) _ = _
                        simp only [Act.put, List.setIfInBounds_toArray, List.set_cons_zero, List.set_cons_succ, i64_w, i32_w]
                        rfl
                      refine one_ (i := 7) (N := some 28) #[true, true, true, true, true, true, true, true, false, true, true, false, false, false] rfl rfl (one_of HT_.out (by kernel_rfl)) (by decide) (fun K hK => ?_)
                      refine goes_ Tryd.func19 (by kernel_rfl) rfl #[.int .u64 (IntKind.u64.wrap (a2_1)), .int .i64 2] (by first | rfl | exact wanted_on rfl rfl rfl (by first | rfl | (simp [*]; done) | (simp [*, IntKind.wrap_u32]; done))) rfl rfl (by (try simp only [List.map_toArray, List.map_cons, List.map_nil]); first | done | rfl | (simp only [List.length_drop, List.length_take]; rfl)) ?_
                      with_reducible refine (gangwayref01_Bytes.calls k (IntKind.u64.wrap (a2_1)) 2 t148 _ A7.out).mono ?_
                      rintro e w27 ⟨rfl, hb⟩
                      refine ⟨_, rfl, ?_⟩
                      have n0_ := Aside0.mk (blk_below (g := gb145) (o := .cells #[.int .i64 a2_0, .int .i64 a2_1, .bool true, .string a2_3] 26 (0, 0)) (by (with_reducible repeat (first | refine blk_drewN ?_ _ | refine blk_drew ?_ | refine blk_alloc ?_ _)); exact BK145.out) hb)
                      have n1_ := Aside0.mk (below_step (by repeat (first | (with_reducible first | exact HB.out | apply below_alloc | apply pw_below_drewN | apply below_drew1 | refine below_set ?_ GE145.out) | exact HB.out)) hb)
                      clear BK145
                      clear HB
                      have BK145 := n0_
                      have HB := n1_
                      clear n0_ n1_
                      (try clear hb)
                      (try clear hb2)
                      (try clear hk)
                      (try clear hi)
                      refine hK.out _ _ ⟨(blk_cell BK145.out 0).trans rfl, (blk_cell BK145.out 1).trans rfl, (blk_cell BK145.out 2).trans rfl, (blk_cell BK145.out 3).trans rfl⟩ (fun hHeld => ?_)
                      clear hK K
                      refine norm_ (a' := ?_) ?_ ?_
                      rotate_left
                      · show Act.put _ (some 28) _ = _
                        simp only [Act.put, List.setIfInBounds_toArray, List.set_cons_zero, List.set_cons_succ, i64_w, i32_w]
                        rfl
                      refine pure_ (i := 8) (N := some 29) (v := ?_) (a' := ?_) #[true, true, true, true, true, true, true, true, true, true, true, false, false, false] rfl rfl (any_of HT_.out (by kernel_rfl)) (fun _ _ _ h => h) (Or.inl ⟨by rfl, ?_⟩) ?_ ?_
                      rotate_left
                      · intro w'
                        go_simp
                        first | with_reducible rfl | (rw [if_neg (by have hz0_ : (⟨#[]⟩ : ByteArray).size = 0 := rfl; have hz1_ : (⟨#[0, 0]⟩ : ByteArray).size = 2 := rfl; (try simp only [decide_eq_true_eq, ByteArray.size_append, ByteArray.size_extract, eq_iff_iff, iff_true, iff_false, Nat.not_lt] at *); omega)]; try with_reducible rfl)
                      rotate_left
                      · simp only [Act.put, List.setIfInBounds_toArray, List.set_cons_zero, List.set_cons_succ, i64_w, i32_w]
                        rfl
                      refine one_ (i := 11) (N := some 32) #[true, true, true, true, true, true, true, true, true, true, true, true, false, false] rfl rfl (one_of HT_.out (by kernel_rfl)) (by decide) (fun K hK => ?_)
                      refine goes_ Tryd.func19 (by kernel_rfl) rfl #[.int .u64 (IntKind.u64.wrap (wrap64 ((a2_3.size : Int) + 8))), .int .i64 2] (by first | rfl | exact wanted_on rfl rfl rfl (by first | rfl | (simp [*]; done) | (simp [*, IntKind.wrap_u32]; done))) rfl rfl (by (try simp only [List.map_toArray, List.map_cons, List.map_nil]); first | done | rfl | (simp only [List.length_drop, List.length_take]; rfl)) ?_
                      with_reducible refine (gangwayref01_Bytes.calls k (IntKind.u64.wrap (wrap64 ((a2_3.size : Int) + 8))) 2 t149 _ A9.out).mono ?_
                      rintro e w28 ⟨rfl, hb⟩
                      refine ⟨_, rfl, ?_⟩
                      have n0_ := Aside0.mk (blk_below (g := gb145) (o := .cells #[.int .i64 a2_0, .int .i64 a2_1, .bool true, .string a2_3] 26 (0, 0)) (by (with_reducible repeat (first | refine blk_drewN ?_ _ | refine blk_drew ?_ | refine blk_alloc ?_ _)); exact BK145.out) hb)
                      have n1_ := Aside0.mk (below_step (by repeat (first | (with_reducible first | exact HB.out | apply below_alloc | apply pw_below_drewN | apply below_drew1 | refine below_set ?_ GE145.out) | exact HB.out)) hb)
                      clear BK145
                      clear HB
                      have BK145 := n0_
                      have HB := n1_
                      clear n0_ n1_
                      (try clear hb)
                      (try clear hb2)
                      (try clear hk)
                      (try clear hi)
                      refine hK.out _ _ ⟨(blk_cell BK145.out 0).trans rfl, (blk_cell BK145.out 1).trans rfl, (blk_cell BK145.out 2).trans rfl, (blk_cell BK145.out 3).trans rfl⟩ (fun hHeld => ?_)
                      clear hK K
                      refine norm_ (a' := ?_) ?_ ?_
                      rotate_left
                      · show Act.put _ (some 32) _ = _
                        simp only [Act.put, List.setIfInBounds_toArray, List.set_cons_zero, List.set_cons_succ, i64_w, i32_w]
                        rfl
                      refine pure_ (i := 12) (N := some 33) (v := ?_) (a' := ?_) #[true, true, true, true, true, true, true, true, true, true, true, true, true, false] rfl rfl (any_of HT_.out (by kernel_rfl)) (fun _ _ _ h => h) (Or.inl ⟨by rfl, ?_⟩) ?_ ?_
                      rotate_left
                      · intro w'
                        go_simp
                        first | with_reducible rfl | (rw [if_neg (by have hz0_ : (⟨#[]⟩ : ByteArray).size = 0 := rfl; have hz1_ : (⟨#[0, 0]⟩ : ByteArray).size = 2 := rfl; (try simp only [decide_eq_true_eq, ByteArray.size_append, ByteArray.size_extract, eq_iff_iff, iff_true, iff_false, Nat.not_lt] at *); omega)]; try with_reducible rfl)
                      rotate_left
                      · simp only [Act.put, List.setIfInBounds_toArray, List.set_cons_zero, List.set_cons_succ, i64_w, i32_w]
                        rfl
                      refine pure_ (i := 13) (N := some 10) (v := ?_) (a' := ?_) #[true, true, true, true, true, true, true, true, true, true, true, true, true, true] rfl rfl (any_of HT_.out (by kernel_rfl)) (fun _ _ _ h => h) (Or.inl ⟨by rfl, ?_⟩) ?_ ?_
                      rotate_left
                      · intro w'
                        go_simp
                        first | with_reducible rfl | (rw [if_neg (by have hz0_ : (⟨#[]⟩ : ByteArray).size = 0 := rfl; have hz1_ : (⟨#[0, 0]⟩ : ByteArray).size = 2 := rfl; (try simp only [decide_eq_true_eq, ByteArray.size_append, ByteArray.size_extract, eq_iff_iff, iff_true, iff_false, Nat.not_lt] at *); omega)]; try with_reducible rfl)
                      rotate_left
                      · simp only [Act.put, List.setIfInBounds_toArray, List.set_cons_zero, List.set_cons_succ, i64_w, i32_w]
                        rfl
                      refine done_ (done_of HT_.out (by kernel_rfl)) ?_
                      try go_wp2
                      have n0_ := Aside0.mk (blk_drew BK145.out)
                      have n1_ := Aside0.mk (below_drew1 HB.out)
                      clear BK145
                      clear HB
                      have BK145 := n0_
                      have HB := n1_
                      clear n0_ n1_
                      refine start_ (n := 12) (S := fun w' => w'.cell? ⟨gb145, 0, none⟩ = some (.int .i64 a2_0) ∧ w'.cell? ⟨gb145, 1, none⟩ = some (.int .i64 a2_1) ∧ w'.cell? ⟨gb145, 2, none⟩ = some (.bool true) ∧ w'.cell? ⟨gb145, 3, none⟩ = some (.string a2_3)) (ds := []) #[false, false, false, false, false, false, false, false, false, false, false, false] (by kernel_rfl) rfl rfl ⟨(blk_cell BK145.out 0).trans rfl, (blk_cell BK145.out 1).trans rfl, (blk_cell BK145.out 2).trans rfl, (blk_cell BK145.out 3).trans rfl⟩ (fun hHeld => ?_); refine with_tabW gangwayref07_Build.tab6 gangwayref07_Build.bits6 (fun HT_ HW_ => ?_)
                      generalize w28.drew = w29 at BK145 HB hHeld ⊢
                      refine pure_ (i := 0) (N := some 34) (v := ?_) (a' := ?_) #[true, false, false, false, false, false, false, false, false, false, false, false] rfl rfl (any_of HT_.out (by kernel_rfl)) (fun _ _ _ h => h) (Or.inl ⟨by rfl, ?_⟩) ?_ ?_
                      rotate_left
                      · intro w'
                        go_simp
                        first | with_reducible rfl | (rw [if_neg (by have hz0_ : (⟨#[]⟩ : ByteArray).size = 0 := rfl; have hz1_ : (⟨#[0, 0]⟩ : ByteArray).size = 2 := rfl; (try simp only [decide_eq_true_eq, ByteArray.size_append, ByteArray.size_extract, eq_iff_iff, iff_true, iff_false, Nat.not_lt] at *); omega)]; try with_reducible rfl)
                      rotate_left
                      · simp only [Act.put, List.setIfInBounds_toArray, List.set_cons_zero, List.set_cons_succ, i64_w, i32_w]
                        rfl
                      refine pure_ (i := 1) (N := some 35) (v := ?_) (a' := ?_) #[true, true, false, false, false, false, false, false, false, false, false, false] rfl rfl (any_of HT_.out (by kernel_rfl)) (fun _ _ _ h => h) (Or.inl ⟨by rfl, ?_⟩) ?_ ?_
                      rotate_left
                      · intro w'
                        go_simp
                        first | with_reducible rfl | (rw [if_neg (by have hz0_ : (⟨#[]⟩ : ByteArray).size = 0 := rfl; have hz1_ : (⟨#[0, 0]⟩ : ByteArray).size = 2 := rfl; (try simp only [decide_eq_true_eq, ByteArray.size_append, ByteArray.size_extract, eq_iff_iff, iff_true, iff_false, Nat.not_lt] at *); omega)]; try with_reducible rfl)
                      rotate_left
                      · simp only [Act.put, List.setIfInBounds_toArray, List.set_cons_zero, List.set_cons_succ, i64_w, i32_w]
                        rfl
                      refine pure_ (i := 2) (N := some 36) (v := ?_) (a' := ?_) #[true, true, true, false, false, false, false, false, false, false, false, false] rfl rfl (any_of HT_.out (by kernel_rfl)) (fun _ _ _ h => h) (Or.inl ⟨by rfl, ?_⟩) ?_ ?_
                      rotate_left
                      · intro w'
                        go_simp
                        first | with_reducible rfl | (rw [if_neg (by have hz0_ : (⟨#[]⟩ : ByteArray).size = 0 := rfl; have hz1_ : (⟨#[0, 0]⟩ : ByteArray).size = 2 := rfl; (try simp only [decide_eq_true_eq, ByteArray.size_append, ByteArray.size_extract, eq_iff_iff, iff_true, iff_false, Nat.not_lt] at *); omega)]; try with_reducible rfl)
                      rotate_left
                      · simp only [Act.put, List.setIfInBounds_toArray, List.set_cons_zero, List.set_cons_succ, i64_w, i32_w]
                        rfl
                      refine pure_ (i := 4) (N := some 38) (v := ?_) (a' := ?_) #[true, true, true, false, true, false, false, false, false, false, false, false] rfl rfl (any_of HT_.out (by kernel_rfl)) (fun _ _ _ h => h) (Or.inl ⟨by rfl, ?_⟩) ?_ ?_
                      rotate_left
                      · intro w'
                        go_simp
                        first | with_reducible rfl | (rw [if_neg (by have hz0_ : (⟨#[]⟩ : ByteArray).size = 0 := rfl; have hz1_ : (⟨#[0, 0]⟩ : ByteArray).size = 2 := rfl; (try simp only [decide_eq_true_eq, ByteArray.size_append, ByteArray.size_extract, eq_iff_iff, iff_true, iff_false, Nat.not_lt] at *); omega)]; try with_reducible rfl)
                      rotate_left
                      · simp only [Act.put, List.setIfInBounds_toArray, List.set_cons_zero, List.set_cons_succ, i64_w, i32_w]
                        rfl
                      refine pure_ (i := 7) (N := some 41) (v := ?_) (a' := ?_) #[true, true, true, false, true, false, false, true, false, false, false, false] rfl rfl (any_of HT_.out (by kernel_rfl)) (fun _ _ _ h => h) (Or.inl ⟨by rfl, ?_⟩) ?_ ?_
                      rotate_left
                      · intro w'
                        go_simp
                        first | with_reducible rfl | (rw [if_neg (by have hz0_ : (⟨#[]⟩ : ByteArray).size = 0 := rfl; have hz1_ : (⟨#[0, 0]⟩ : ByteArray).size = 2 := rfl; (try simp only [decide_eq_true_eq, ByteArray.size_append, ByteArray.size_extract, eq_iff_iff, iff_true, iff_false, Nat.not_lt] at *); omega)]; try with_reducible rfl)
                      rotate_left
                      · simp only [Act.put, List.setIfInBounds_toArray, List.set_cons_zero, List.set_cons_succ, i64_w, i32_w]
                        rfl
                      refine take_ (i := 8) (N := some 42) (v := ?_) (a' := ?_) #[true, true, true, false, true, false, false, true, true, false, false, false] rfl rfl (take_ofW HT_.out HW_.out (by kernel_rfl)) (fun _ _ _ h => h) (Or.inl ⟨by rfl, ?_⟩) hHeld ?_ ?_
                      rotate_left
                      · rintro w' ⟨s0, s1, s2, s3⟩
                        go_simp
                        with_reducible rfl
                      rotate_left
                      · simp only [Act.put, List.setIfInBounds_toArray, List.set_cons_zero, List.set_cons_succ, i64_w, i32_w]
                        rfl
                      refine one_ (i := 3) (N := some 37) #[true, true, true, true, true, false, false, true, true, false, false, false] rfl rfl (one_of HT_.out (by kernel_rfl)) (by decide) (fun K hK => ?_)
                      refine goes_ Tryd.func21 (by kernel_rfl) rfl #[.int .u32 a0, .int .u32 a1, .int .i64 17, .int .i64 (wrap64 ((a2_3.size : Int) + 8))] (by first | rfl | exact wanted_on rfl rfl rfl (by first | rfl | (simp [*]; done) | (simp [*, IntKind.wrap_u32]; done))) rfl rfl (by (try simp only [List.map_toArray, List.map_cons, List.map_nil]); first | done | rfl | (simp only [List.length_drop, List.length_take]; rfl)) ?_
                      with_reducible refine (gangwayref03_Head.calls k a0 a1 17 (wrap64 ((a2_3.size : Int) + 8)) t150 _ A11.out).mono ?_
                      rintro e w30 ⟨rfl, hb⟩
                      refine ⟨_, rfl, ?_⟩
                      have n0_ := Aside0.mk (blk_below (g := gb145) (o := .cells #[.int .i64 a2_0, .int .i64 a2_1, .bool true, .string a2_3] 26 (0, 0)) (by (with_reducible repeat (first | refine blk_drewN ?_ _ | refine blk_drew ?_ | refine blk_alloc ?_ _)); exact BK145.out) hb)
                      have n1_ := Aside0.mk (below_step (by repeat (first | (with_reducible first | exact HB.out | apply below_alloc | apply pw_below_drewN | apply below_drew1 | refine below_set ?_ GE145.out) | exact HB.out)) hb)
                      clear BK145
                      clear HB
                      have BK145 := n0_
                      have HB := n1_
                      clear n0_ n1_
                      (try clear hb)
                      (try clear hb2)
                      (try clear hk)
                      (try clear hi)
                      refine hK.out _ _ ⟨(blk_cell BK145.out 0).trans rfl, (blk_cell BK145.out 1).trans rfl, (blk_cell BK145.out 2).trans rfl, (blk_cell BK145.out 3).trans rfl⟩ (fun hHeld => ?_)
                      clear hK K
                      refine norm_ (a' := ?_) ?_ ?_
                      rotate_left
                      · show Act.put _ (some 37) _ = _
                        simp only [Act.put, List.setIfInBounds_toArray, List.set_cons_zero, List.set_cons_succ, i64_w, i32_w]
                        rfl
                      refine pure_ (i := 5) (N := some 39) (v := ?_) (a' := ?_) #[true, true, true, true, true, true, false, true, true, false, false, false] rfl rfl (any_of HT_.out (by kernel_rfl)) (fun _ _ _ h => h) (Or.inl ⟨by rfl, ?_⟩) ?_ ?_
                      rotate_left
                      · intro w'
                        go_simp
                        first | with_reducible rfl | (rw [if_neg (by have hz0_ : (⟨#[]⟩ : ByteArray).size = 0 := rfl; have hz1_ : (⟨#[0, 0]⟩ : ByteArray).size = 2 := rfl; (try simp only [decide_eq_true_eq, ByteArray.size_append, ByteArray.size_extract, eq_iff_iff, iff_true, iff_false, Nat.not_lt] at *); omega)]; try with_reducible rfl)
                      rotate_left
                      · simp only [Act.put, List.setIfInBounds_toArray, List.set_cons_zero, List.set_cons_succ, i64_w, i32_w]
                        rfl
                      refine pure_ (i := 6) (N := some 40) (v := ?_) (a' := ?_) #[true, true, true, true, true, true, true, true, true, false, false, false] rfl rfl (any_of HT_.out (by kernel_rfl)) (fun _ _ _ h => h) (Or.inl ⟨by rfl, ?_⟩) ?_ ?_
                      rotate_left
                      · intro w'
                        go_simp
                        first | with_reducible rfl | (rw [if_neg (by have hz0_ : (⟨#[]⟩ : ByteArray).size = 0 := rfl; have hz1_ : (⟨#[0, 0]⟩ : ByteArray).size = 2 := rfl; (try simp only [decide_eq_true_eq, ByteArray.size_append, ByteArray.size_extract, eq_iff_iff, iff_true, iff_false, Nat.not_lt] at *); omega)]; try with_reducible rfl)
                      rotate_left
                      · simp only [Act.put, List.setIfInBounds_toArray, List.set_cons_zero, List.set_cons_succ, i64_w, i32_w]
                        rfl
                      refine pure_ (i := 9) (N := some 43) (v := ?_) (a' := ?_) #[true, true, true, true, true, true, true, true, true, true, false, false] rfl rfl (any_of HT_.out (by kernel_rfl)) (fun _ _ _ h => h) (Or.inl ⟨by rfl, ?_⟩) ?_ ?_
                      rotate_left
                      · intro w'
                        go_simp
                        first | with_reducible rfl | (rw [if_neg (by have hz0_ : (⟨#[]⟩ : ByteArray).size = 0 := rfl; have hz1_ : (⟨#[0, 0]⟩ : ByteArray).size = 2 := rfl; (try simp only [decide_eq_true_eq, ByteArray.size_append, ByteArray.size_extract, eq_iff_iff, iff_true, iff_false, Nat.not_lt] at *); omega)]; try with_reducible rfl)
                      rotate_left
                      · simp only [Act.put, List.setIfInBounds_toArray, List.set_cons_zero, List.set_cons_succ, i64_w, i32_w]
                        rfl
                      refine one_ (i := 10) (N := some 44) #[true, true, true, true, true, true, true, true, true, true, true, false] rfl rfl (one_of HT_.out (by kernel_rfl)) (by decide) (fun K hK => ?_)
                      refine goes_ Tryd.func20 (by kernel_rfl) rfl #[.string (((t150 ++ ((t147 ++ t148) ++ t149)) ++ (⟨#[0, 0]⟩ : ByteArray)) ++ a2_3)] (by first | rfl | exact wanted_on rfl rfl rfl (by first | rfl | (simp [*]; done) | (simp [*, IntKind.wrap_u32]; done))) rfl rfl (by (try simp only [List.map_toArray, List.map_cons, List.map_nil]); first | done | rfl | (simp only [List.length_drop, List.length_take]; rfl)) ?_
                      with_reducible refine (gangwayref03_Of.calls k (((t150 ++ ((t147 ++ t148) ++ t149)) ++ (⟨#[0, 0]⟩ : ByteArray)) ++ a2_3) t151 _ A15.out).mono ?_
                      rintro e w' ⟨rfl, ⟨nd, rfl⟩⟩
                      refine ⟨_, rfl, ?_⟩
                      refine hK.out _ _ ⟨(blk_cell BK145.out 0).trans rfl, (blk_cell BK145.out 1).trans rfl, (blk_cell BK145.out 2).trans rfl, (blk_cell BK145.out 3).trans rfl⟩ (fun hHeld => ?_)
                      clear hK K
                      refine norm_ (a' := ?_) ?_ ?_
                      rotate_left
                      · show Act.put _ (some 44) _ = _
                        simp only [Act.put, List.setIfInBounds_toArray, List.set_cons_zero, List.set_cons_succ, i64_w, i32_w]
                        rfl
                      refine pure_ (i := 11) (N := some 11) (v := ?_) (a' := ?_) #[true, true, true, true, true, true, true, true, true, true, true, true] rfl rfl (any_of HT_.out (by kernel_rfl)) (fun _ _ _ h => h) (Or.inl ⟨by rfl, ?_⟩) ?_ ?_
                      rotate_left
                      · intro w'
                        go_simp
                        first | with_reducible rfl | (rw [if_neg (by have hz0_ : (⟨#[]⟩ : ByteArray).size = 0 := rfl; have hz1_ : (⟨#[0, 0]⟩ : ByteArray).size = 2 := rfl; (try simp only [decide_eq_true_eq, ByteArray.size_append, ByteArray.size_extract, eq_iff_iff, iff_true, iff_false, Nat.not_lt] at *); omega)]; try with_reducible rfl)
                      rotate_left
                      · simp only [Act.put, List.setIfInBounds_toArray, List.set_cons_zero, List.set_cons_succ, i64_w, i32_w]
                        rfl
                      refine done_ (done_of HT_.out (by kernel_rfl)) ?_
                      have hcz31_0 : w30.cell? ⟨gb145, 0, none⟩ = some (.int .i64 a2_0) := (blk_cell BK145.out 0).trans rfl
                      have hcz31_1 : w30.cell? ⟨gb145, 1, none⟩ = some (.int .i64 a2_1) := (blk_cell BK145.out 1).trans rfl
                      have hcz31_2 : w30.cell? ⟨gb145, 2, none⟩ = some (.bool true) := (blk_cell BK145.out 2).trans rfl
                      have hcz31_3 : w30.cell? ⟨gb145, 3, none⟩ = some (.string a2_3) := (blk_cell BK145.out 3).trans rfl
                      have hfz31_0 := blk_frozen BK145.out 0
                      have hfz31_1 := blk_frozen BK145.out 1
                      have hfz31_2 := blk_frozen BK145.out 2
                      have hfz31_3 := blk_frozen BK145.out 3
                      try go_wp2
                      (try (rw [drewN_self w30]; generalize hq_ : World.drewN w30 _ = w30; have n0_ : Aside0 (w30.heap[gb145]? = some (.cells #[.int .i64 a2_0, .int .i64 a2_1, .bool true, .string a2_3] 26 (0, 0))) := ⟨by rw [← hq_]; exact (by (with_reducible repeat (first | refine blk_drewN ?_ _ | refine blk_drew ?_ | refine blk_alloc ?_ _)); exact BK145.out)⟩; have n1_ : Aside0 (Below w.heap.size w w30) := ⟨by rw [← hq_]; exact (by repeat (first | (with_reducible first | exact HB.out | apply below_alloc | apply pw_below_drewN | apply below_drew1 | refine below_set ?_ GE145.out) | exact HB.out))⟩; clear BK145 HB hq_; have BK145 := n0_; have HB := n1_; clear n0_ n1_))
                      have n0_ := Aside0.mk (blk_drew BK145.out)
                      have n1_ := Aside0.mk (below_drew1 HB.out)
                      clear BK145
                      clear HB
                      have BK145 := n0_
                      have HB := n1_
                      clear n0_ n1_
                      refine start_ (n := 10) (S := fun w' => w'.cell? ⟨gb145, 0, none⟩ = some (.int .i64 a2_0) ∧ w'.cell? ⟨gb145, 1, none⟩ = some (.int .i64 a2_1) ∧ w'.cell? ⟨gb145, 2, none⟩ = some (.bool true) ∧ w'.cell? ⟨gb145, 3, none⟩ = some (.string a2_3)) (ds := []) #[false, false, false, false, false, false, false, false, false, false] (by kernel_rfl) rfl rfl ⟨(blk_cell BK145.out 0).trans rfl, (blk_cell BK145.out 1).trans rfl, (blk_cell BK145.out 2).trans rfl, (blk_cell BK145.out 3).trans rfl⟩ (fun hHeld => ?_); refine with_tabW gangwayref07_Build.tab11 gangwayref07_Build.bits11 (fun HT_ HW_ => ?_)
                      generalize w30.drew = w32 at BK145 HB hHeld ⊢
                      refine pure_ (i := 0) (N := some 49) (v := ?_) (a' := ?_) #[true, false, false, false, false, false, false, false, false, false] rfl rfl (any_of HT_.out (by kernel_rfl)) (fun _ _ _ h => h) (Or.inl ⟨by rfl, ?_⟩) ?_ ?_
                      rotate_left
                      · intro w'
                        go_simp
                        first | with_reducible rfl | (rw [if_neg (by have hz0_ : (⟨#[]⟩ : ByteArray).size = 0 := rfl; have hz1_ : (⟨#[0, 0]⟩ : ByteArray).size = 2 := rfl; (try simp only [decide_eq_true_eq, ByteArray.size_append, ByteArray.size_extract, eq_iff_iff, iff_true, iff_false, Nat.not_lt] at *); omega)]; try with_reducible rfl)
                      rotate_left
                      · simp only [Act.put, List.setIfInBounds_toArray, List.set_cons_zero, List.set_cons_succ, i64_w, i32_w]
                        rfl
                      refine pure_ (i := 1) (N := some 50) (v := ?_) (a' := ?_) #[true, true, false, false, false, false, false, false, false, false] rfl rfl (any_of HT_.out (by kernel_rfl)) (fun _ _ _ h => h) (Or.inl ⟨by rfl, ?_⟩) ?_ ?_
                      rotate_left
                      · intro w'
                        go_simp
                        first | with_reducible rfl | (rw [if_neg (by have hz0_ : (⟨#[]⟩ : ByteArray).size = 0 := rfl; have hz1_ : (⟨#[0, 0]⟩ : ByteArray).size = 2 := rfl; (try simp only [decide_eq_true_eq, ByteArray.size_append, ByteArray.size_extract, eq_iff_iff, iff_true, iff_false, Nat.not_lt] at *); omega)]; try with_reducible rfl)
                      rotate_left
                      · simp only [Act.put, List.setIfInBounds_toArray, List.set_cons_zero, List.set_cons_succ, i64_w, i32_w]
                        rfl
                      refine pure_ (i := 2) (N := some 51) (v := ?_) (a' := ?_) #[true, true, true, false, false, false, false, false, false, false] rfl rfl (any_of HT_.out (by kernel_rfl)) (fun _ _ _ h => h) (Or.inl ⟨by rfl, ?_⟩) ?_ ?_
                      rotate_left
                      · intro w'
                        go_simp
                        first | with_reducible rfl | (rw [if_neg (by have hz0_ : (⟨#[]⟩ : ByteArray).size = 0 := rfl; have hz1_ : (⟨#[0, 0]⟩ : ByteArray).size = 2 := rfl; (try simp only [decide_eq_true_eq, ByteArray.size_append, ByteArray.size_extract, eq_iff_iff, iff_true, iff_false, Nat.not_lt] at *); omega)]; try with_reducible rfl)
                      rotate_left
                      · simp only [Act.put, List.setIfInBounds_toArray, List.set_cons_zero, List.set_cons_succ, i64_w, i32_w]
                        rfl
                      refine pure_ (i := 5) (N := some 54) (v := ?_) (a' := ?_) #[true, true, true, false, false, true, false, false, false, false] rfl rfl (any_of HT_.out (by kernel_rfl)) (fun _ _ _ h => h) (Or.inl ⟨by rfl, ?_⟩) ?_ ?_
                      rotate_left
                      · intro w'
                        go_simp
                        first | with_reducible rfl | (rw [if_neg (by have hz0_ : (⟨#[]⟩ : ByteArray).size = 0 := rfl; have hz1_ : (⟨#[0, 0]⟩ : ByteArray).size = 2 := rfl; (try simp only [decide_eq_true_eq, ByteArray.size_append, ByteArray.size_extract, eq_iff_iff, iff_true, iff_false, Nat.not_lt] at *); omega)]; try with_reducible rfl)
                      rotate_left
                      · simp only [Act.put, List.setIfInBounds_toArray, List.set_cons_zero, List.set_cons_succ, i64_w, i32_w]
                        rfl
                      refine take_ (i := 6) (N := some 55) (v := ?_) (a' := ?_) #[true, true, true, false, false, true, true, false, false, false] rfl rfl (take_ofW HT_.out HW_.out (by kernel_rfl)) (fun _ _ _ h => h) (Or.inl ⟨by rfl, ?_⟩) hHeld ?_ ?_
                      rotate_left
                      · rintro w' ⟨s0, s1, s2, s3⟩
                        go_simp
                        with_reducible rfl
                      rotate_left
                      · simp only [Act.put, List.setIfInBounds_toArray, List.set_cons_zero, List.set_cons_succ, i64_w, i32_w]
                        rfl
                      refine one_ (i := 3) (N := some 52) #[true, true, true, true, false, true, true, false, false, false] rfl rfl (one_of HT_.out (by kernel_rfl)) (by decide) (fun K hK => ?_)
                      refine goes_ Tryd.func19 (by kernel_rfl) rfl #[.int .u64 0, .int .i64 2] (by first | rfl | exact wanted_on rfl rfl rfl (by first | rfl | (simp [*]; done) | (simp [*, IntKind.wrap_u32]; done))) rfl rfl (by (try simp only [List.map_toArray, List.map_cons, List.map_nil]); first | done | rfl | (simp only [List.length_drop, List.length_take]; rfl)) ?_
                      with_reducible refine (gangwayref01_Bytes.calls k 0 2 t152 _ A18.out).mono ?_
                      rintro e w33 ⟨rfl, hb⟩
                      refine ⟨_, rfl, ?_⟩
                      have n0_ := Aside0.mk (blk_below (g := gb145) (o := .cells #[.int .i64 a2_0, .int .i64 a2_1, .bool true, .string a2_3] 26 (0, 0)) (by (with_reducible repeat (first | refine blk_drewN ?_ _ | refine blk_drew ?_ | refine blk_alloc ?_ _)); exact BK145.out) hb)
                      have n1_ := Aside0.mk (below_step (by repeat (first | (with_reducible first | exact HB.out | apply below_alloc | apply pw_below_drewN | apply below_drew1 | refine below_set ?_ GE145.out) | exact HB.out)) hb)
                      clear BK145
                      clear HB
                      have BK145 := n0_
                      have HB := n1_
                      clear n0_ n1_
                      (try clear hb)
                      (try clear hb2)
                      (try clear hk)
                      (try clear hi)
                      refine hK.out _ _ ⟨(blk_cell BK145.out 0).trans rfl, (blk_cell BK145.out 1).trans rfl, (blk_cell BK145.out 2).trans rfl, (blk_cell BK145.out 3).trans rfl⟩ (fun hHeld => ?_)
                      clear hK K
                      refine norm_ (a' := ?_) ?_ ?_
                      rotate_left
                      · show Act.put _ (some 52) _ = _
                        simp only [Act.put, List.setIfInBounds_toArray, List.set_cons_zero, List.set_cons_succ, i64_w, i32_w]
                        rfl
                      refine pure_ (i := 4) (N := some 53) (v := ?_) (a' := ?_) #[true, true, true, true, true, true, true, false, false, false] rfl rfl (any_of HT_.out (by kernel_rfl)) (fun _ _ _ h => h) (Or.inl ⟨by rfl, ?_⟩) ?_ ?_
                      rotate_left
                      · intro w'
                        go_simp
                        first | with_reducible rfl | (rw [if_neg (by have hz0_ : (⟨#[]⟩ : ByteArray).size = 0 := rfl; have hz1_ : (⟨#[0, 0]⟩ : ByteArray).size = 2 := rfl; (try simp only [decide_eq_true_eq, ByteArray.size_append, ByteArray.size_extract, eq_iff_iff, iff_true, iff_false, Nat.not_lt] at *); omega)]; try with_reducible rfl)
                      rotate_left
                      · simp only [Act.put, List.setIfInBounds_toArray, List.set_cons_zero, List.set_cons_succ, i64_w, i32_w]
                        rfl
                      refine pure_ (i := 7) (N := some 56) (v := ?_) (a' := ?_) #[true, true, true, true, true, true, true, true, false, false] rfl rfl (any_of HT_.out (by kernel_rfl)) (fun _ _ _ h => h) (Or.inl ⟨by rfl, ?_⟩) ?_ ?_
                      rotate_left
                      · intro w'
                        go_simp
                        first | with_reducible rfl | (rw [if_neg (by have hz0_ : (⟨#[]⟩ : ByteArray).size = 0 := rfl; have hz1_ : (⟨#[0, 0]⟩ : ByteArray).size = 2 := rfl; (try simp only [decide_eq_true_eq, ByteArray.size_append, ByteArray.size_extract, eq_iff_iff, iff_true, iff_false, Nat.not_lt] at *); omega)]; try with_reducible rfl)
                      rotate_left
                      · simp only [Act.put, List.setIfInBounds_toArray, List.set_cons_zero, List.set_cons_succ, i64_w, i32_w]
                        rfl
                      refine pure_ (i := 8) (N := some 6) (v := ?_) (a' := ?_) #[true, true, true, true, true, true, true, true, true, false] rfl rfl (any_of HT_.out (by kernel_rfl)) (fun _ _ _ h => h) (Or.inl ⟨by rfl, ?_⟩) ?_ ?_
                      rotate_left
                      · intro w'
                        go_simp
                        first | with_reducible rfl | (rw [if_neg (by have hz0_ : (⟨#[]⟩ : ByteArray).size = 0 := rfl; have hz1_ : (⟨#[0, 0]⟩ : ByteArray).size = 2 := rfl; (try simp only [decide_eq_true_eq, ByteArray.size_append, ByteArray.size_extract, eq_iff_iff, iff_true, iff_false, Nat.not_lt] at *); omega)]; try with_reducible rfl)
                      rotate_left
                      · simp only [Act.put, List.setIfInBounds_toArray, List.set_cons_zero, List.set_cons_succ, i64_w, i32_w]
                        rfl
                      refine pure_ (i := 9) (N := some 7) (v := ?_) (a' := ?_) #[true, true, true, true, true, true, true, true, true, true] rfl rfl (any_of HT_.out (by kernel_rfl)) (fun _ _ _ h => h) (Or.inl ⟨by rfl, ?_⟩) ?_ ?_
                      rotate_left
                      · intro w'
                        go_simp
                        first | with_reducible rfl | (rw [if_neg (by have hz0_ : (⟨#[]⟩ : ByteArray).size = 0 := rfl; have hz1_ : (⟨#[0, 0]⟩ : ByteArray).size = 2 := rfl; (try simp only [decide_eq_true_eq, ByteArray.size_append, ByteArray.size_extract, eq_iff_iff, iff_true, iff_false, Nat.not_lt] at *); omega)]; try with_reducible rfl)
                      rotate_left
                      · simp only [Act.put, List.setIfInBounds_toArray, List.set_cons_zero, List.set_cons_succ, i64_w, i32_w]
                        rfl
                      refine done_ (done_of HT_.out (by kernel_rfl)) ?_
                      try go_wp2
                      go_ret2
                      exact ⟨by first | rfl | (simp [errW_none, errW_some] <;> rfl) | (simp [*, errW_none, errW_some] <;> rfl) | (simp [*, IntKind.wrap_u32]; done) | (simp_all [IntKind.wrap_u32]; done), by repeat (first | (with_reducible first | exact HB.out | apply below_alloc | apply pw_below_drewN | apply below_drew1 | refine below_set ?_ GE145.out) | exact HB.out)⟩
                    · rw [if_neg c20] at H
                      exact absurd H (by simp)
                  · rw [if_neg c19] at H
                    exact absurd H (by simp)
                · replace c17 := Bool.eq_false_iff.mpr c17
                  subst c17
                  have H1 : ((gangwayref01_Bytes.f k 65535 2).bind fun t153 => (if ((t147 ++ t148) ++ t149).size + t153.size ≤ 9223372036854775807 then (if (((t147 ++ t148) ++ t149) ++ t153).size + a2_3.size ≤ 9223372036854775807 then (some ((((t147 ++ t148) ++ t149) ++ t153) ++ a2_3, 0)) else (none)) else (none))) = some (r1, r2) := by rw [if_neg (show ¬ (false = true) by decide)] at H; exact H
                  clear H
                  have H := H1
                  clear H1
                  replace H := Option.bind_eq_some_iff.mp H
                  obtain ⟨t153, A340, H⟩ := H
                  replace H : (if ((t147 ++ t148) ++ t149).size + t153.size ≤ 9223372036854775807 then (if (((t147 ++ t148) ++ t149) ++ t153).size + a2_3.size ≤ 9223372036854775807 then (some ((((t147 ++ t148) ++ t149) ++ t153) ++ a2_3, 0)) else (none)) else (none)) = some (r1, r2) := H
                  have A34 := Aside0.mk A340
                  clear A340
                  by_cases c35 : ((t147 ++ t148) ++ t149).size + t153.size ≤ 9223372036854775807
                  · rw [if_pos c35] at H
                    have c35b0 := eq_true c35
                    have c35b1 : decide (((t147 ++ t148) ++ t149).size + t153.size ≤ 9223372036854775807) = true := decide_eq_true c35
                    have c35z := c35
                    simp only [ByteArray.size_append] at c35z
                    have c35z1 := eq_true c35z
                    have c35z2 := eq_false (Nat.not_lt.2 c35z)
                    try have c35b2 : (9223372036854775807 < ((t147 ++ t148) ++ t149).size + t153.size) = False := eq_false (Nat.not_lt.2 c35)
                    by_cases c36 : (((t147 ++ t148) ++ t149) ++ t153).size + a2_3.size ≤ 9223372036854775807
                    · rw [if_pos c36] at H
                      have c36b0 := eq_true c36
                      have c36b1 : decide ((((t147 ++ t148) ++ t149) ++ t153).size + a2_3.size ≤ 9223372036854775807) = true := decide_eq_true c36
                      have c36z := c36
                      simp only [ByteArray.size_append] at c36z
                      have c36z1 := eq_true c36z
                      have c36z2 := eq_false (Nat.not_lt.2 c36z)
                      try have c36b2 : (9223372036854775807 < (((t147 ++ t148) ++ t149) ++ t153).size + a2_3.size) = False := eq_false (Nat.not_lt.2 c36)
                      simp only [Option.some.injEq, Prod.mk.injEq] at H
                      obtain ⟨rfl, rfl⟩ := H
                      go_enter Tryd.func10, Tryd.ntmps10
                      try go_wp2_with (first | ((with_reducible refine gate_dst (N := 5) rfl ?_); refine box_event ?hg (N := 5) ?hd (cs := #[.int .i64 a2_0, .int .i64 a2_1, .bool false, .string a2_3]) (t := 26) ?hr ?_; (case hd => rfl); (case hg => rfl); (case hr => first | (go_simp; done) | (go_simp; rfl)); intro gb145 hg w37 hbox hb; have n0_ := Aside0.mk (below_step (by repeat (first | (with_reducible first | exact HB.out | apply below_alloc | apply pw_below_drewN | apply below_drew1) | exact HB.out)) hb); have n1_ := Aside0.mk (hbox); have n2_ := Aside0.mk ((by rw [hg]; exact (below_size (by repeat (first | (with_reducible first | exact HB.out | apply below_alloc | apply pw_below_drewN | apply below_drew1) | exact HB.out))) : w.heap.size ≤ gb145)); have n3_ := Aside0.mk ((by rw [hg]; exact (below_size (by repeat (first | (with_reducible first | exact HB.out | apply below_alloc | apply pw_below_drewN | apply below_drew1) | exact HB.out))) : w.heap.size ≤ gb145)); clear HB; have HB := n0_; have BK145 := n1_; have GW145 := n2_; have GE145 := n3_; clear n0_ n1_ n2_ n3_; clear hb hbox hg; have hcz38_0 : w37.cell? ⟨gb145, 0, none⟩ = some (.int .i64 a2_0) := (blk_cell BK145.out 0).trans rfl; have hcz38_1 : w37.cell? ⟨gb145, 1, none⟩ = some (.int .i64 a2_1) := (blk_cell BK145.out 1).trans rfl; have hcz38_2 : w37.cell? ⟨gb145, 2, none⟩ = some (.bool false) := (blk_cell BK145.out 2).trans rfl; have hcz38_3 : w37.cell? ⟨gb145, 3, none⟩ = some (.string a2_3) := (blk_cell BK145.out 3).trans rfl; have hfz38_0 := blk_frozen BK145.out 0; have hfz38_1 := blk_frozen BK145.out 1; have hfz38_2 := blk_frozen BK145.out 2; have hfz38_3 := blk_frozen BK145.out 3) | ((with_reducible refine gate_callee (f := 13) rfl ?_); refine goesL_ (some 13) rfl rfl Tryd.func13 (by kernel_rfl) rfl #[.agg #[.int .i64 a2_0, .int .i64 a2_1, .bool false, .string a2_3]] rfl (by (try simp only [List.map_toArray, List.map_cons, List.map_nil]); first | done | rfl | (simp only [List.length_drop, List.length_take]; rfl)) ?_; (with_reducible refine (gangwayref07_Check.calls a2_0 a2_1 false a2_3 t146 _ A4.out).mono ?_); rintro e w39 ⟨rfl, hb⟩; refine ⟨_, rfl, ?_⟩; have n0_ := Aside0.mk (blk_below (g := gb145) (o := .cells #[.int .i64 a2_0, .int .i64 a2_1, .bool false, .string a2_3] 26 (0, 0)) (by (with_reducible repeat (first | refine blk_drewN ?_ _ | refine blk_drew ?_ | refine blk_alloc ?_ _)); exact BK145.out) hb); have n1_ := Aside0.mk (below_step (by repeat (first | (with_reducible first | exact HB.out | apply below_alloc | apply pw_below_drewN | apply below_drew1 | refine below_set ?_ GE145.out) | exact HB.out)) hb); clear BK145; clear HB; have BK145 := n0_; have HB := n1_; clear n0_ n1_; have hcy1_145_0 := (show World.cell? _ ⟨gb145, 0, none⟩ = some (.int .i64 a2_0) from (blk_cell BK145.out 0).trans rfl); have hcy1_145_1 := (show World.cell? _ ⟨gb145, 1, none⟩ = some (.int .i64 a2_1) from (blk_cell BK145.out 1).trans rfl); have hcy1_145_2 := (show World.cell? _ ⟨gb145, 2, none⟩ = some (.bool false) from (blk_cell BK145.out 2).trans rfl); have hcy1_145_3 := (show World.cell? _ ⟨gb145, 3, none⟩ = some (.string a2_3) from (blk_cell BK145.out 3).trans rfl); (try clear hb); (try clear hb2); (try clear hk); (try clear hi); have hcz40_0 : w39.cell? ⟨gb145, 0, none⟩ = some (.int .i64 a2_0) := (blk_cell BK145.out 0).trans rfl; have hcz40_1 : w39.cell? ⟨gb145, 1, none⟩ = some (.int .i64 a2_1) := (blk_cell BK145.out 1).trans rfl; have hcz40_2 : w39.cell? ⟨gb145, 2, none⟩ = some (.bool false) := (blk_cell BK145.out 2).trans rfl; have hcz40_3 : w39.cell? ⟨gb145, 3, none⟩ = some (.string a2_3) := (blk_cell BK145.out 3).trans rfl; have hfz40_0 := blk_frozen BK145.out 0; have hfz40_1 := blk_frozen BK145.out 1; have hfz40_2 := blk_frozen BK145.out 2; have hfz40_3 := blk_frozen BK145.out 3))
                      have n0_ := Aside0.mk (blk_drew BK145.out)
                      have n1_ := Aside0.mk (below_drew1 HB.out)
                      clear BK145
                      clear HB
                      have BK145 := n0_
                      have HB := n1_
                      clear n0_ n1_
                      refine start_ (n := 14) (S := fun w' => w'.cell? ⟨gb145, 0, none⟩ = some (.int .i64 a2_0) ∧ w'.cell? ⟨gb145, 1, none⟩ = some (.int .i64 a2_1) ∧ w'.cell? ⟨gb145, 2, none⟩ = some (.bool false) ∧ w'.cell? ⟨gb145, 3, none⟩ = some (.string a2_3)) (ds := []) #[false, false, false, false, false, false, false, false, false, false, false, false, false, false] (by kernel_rfl) rfl rfl ⟨(blk_cell BK145.out 0).trans rfl, (blk_cell BK145.out 1).trans rfl, (blk_cell BK145.out 2).trans rfl, (blk_cell BK145.out 3).trans rfl⟩ (fun hHeld => ?_); refine with_tabW gangwayref07_Build.tab5 gangwayref07_Build.bits5 (fun HT_ HW_ => ?_)
                      generalize w39.drew = w41 at BK145 HB hHeld ⊢
                      refine pure_ (i := 0) (N := some 21) (v := ?_) (a' := ?_) #[true, false, false, false, false, false, false, false, false, false, false, false, false, false] rfl rfl (any_of HT_.out (by kernel_rfl)) (fun _ _ _ h => h) (Or.inl ⟨by rfl, ?_⟩) ?_ ?_
                      rotate_left
                      · intro w'
                        go_simp
                        first | with_reducible rfl | (rw [if_neg (by have hz0_ : (⟨#[]⟩ : ByteArray).size = 0 := rfl; have hz1_ : (⟨#[0, 0]⟩ : ByteArray).size = 2 := rfl; (try simp only [decide_eq_true_eq, ByteArray.size_append, ByteArray.size_extract, eq_iff_iff, iff_true, iff_false, Nat.not_lt] at *); omega)]; try with_reducible rfl)
                      rotate_left
                      · simp only [Act.put, List.setIfInBounds_toArray, List.set_cons_zero, List.set_cons_succ, i64_w, i32_w]
                        rfl
                      refine pure_ (i := 4) (N := some 25) (v := ?_) (a' := ?_) #[true, false, false, false, true, false, false, false, false, false, false, false, false, false] rfl rfl (any_of HT_.out (by kernel_rfl)) (fun _ _ _ h => h) (Or.inl ⟨by rfl, ?_⟩) ?_ ?_
                      rotate_left
                      · intro w'
                        go_simp
                        first | with_reducible rfl | (rw [if_neg (by have hz0_ : (⟨#[]⟩ : ByteArray).size = 0 := rfl; have hz1_ : (⟨#[0, 0]⟩ : ByteArray).size = 2 := rfl; (try simp only [decide_eq_true_eq, ByteArray.size_append, ByteArray.size_extract, eq_iff_iff, iff_true, iff_false, Nat.not_lt] at *); omega)]; try with_reducible rfl)
                      rotate_left
                      · simp only [Act.put, List.setIfInBounds_toArray, List.set_cons_zero, List.set_cons_succ, i64_w, i32_w]
                        rfl
                      refine pure_ (i := 9) (N := some 30) (v := ?_) (a' := ?_) #[true, false, false, false, true, false, false, false, false, true, false, false, false, false] rfl rfl (any_of HT_.out (by kernel_rfl)) (fun _ _ _ h => h) (Or.inl ⟨by rfl, ?_⟩) ?_ ?_
                      rotate_left
                      · intro w'
                        go_simp
                        first | with_reducible rfl | (rw [if_neg (by have hz0_ : (⟨#[]⟩ : ByteArray).size = 0 := rfl; have hz1_ : (⟨#[0, 0]⟩ : ByteArray).size = 2 := rfl; (try simp only [decide_eq_true_eq, ByteArray.size_append, ByteArray.size_extract, eq_iff_iff, iff_true, iff_false, Nat.not_lt] at *); omega)]; try with_reducible rfl)
                      rotate_left
                      · simp only [Act.put, List.setIfInBounds_toArray, List.set_cons_zero, List.set_cons_succ, i64_w, i32_w]
                        rfl
                      refine pure_ (i := 10) (N := some 31) (v := ?_) (a' := ?_) #[true, false, false, false, true, false, false, false, false, true, true, false, false, false] rfl rfl (any_of HT_.out (by kernel_rfl)) (fun _ _ _ h => h) (Or.inl ⟨by rfl, ?_⟩) ?_ ?_
                      rotate_left
                      · intro w'
                        go_simp
                        first | with_reducible rfl | (rw [if_neg (by have hz0_ : (⟨#[]⟩ : ByteArray).size = 0 := rfl; have hz1_ : (⟨#[0, 0]⟩ : ByteArray).size = 2 := rfl; (try simp only [decide_eq_true_eq, ByteArray.size_append, ByteArray.size_extract, eq_iff_iff, iff_true, iff_false, Nat.not_lt] at *); omega)]; try with_reducible rfl)
                      rotate_left
                      · simp only [Act.put, List.setIfInBounds_toArray, List.set_cons_zero, List.set_cons_succ, i64_w, i32_w]
                        rfl
                      refine take_ (i := 1) (N := some 22) (v := ?_) (a' := ?_) #[true, true, false, false, true, false, false, false, false, true, true, false, false, false] rfl rfl (take_ofW HT_.out HW_.out (by kernel_rfl)) (fun _ _ _ h => h) (Or.inl ⟨by rfl, ?_⟩) hHeld ?_ ?_
                      rotate_left
                      · rintro w' ⟨s0, s1, s2, s3⟩
                        go_simp
                        with_reducible rfl
                      rotate_left
                      · simp only [Act.put, List.setIfInBounds_toArray, List.set_cons_zero, List.set_cons_succ, i64_w, i32_w]
                        rfl
                      refine pure_ (i := 2) (N := some 23) (v := ?_) (a' := ?_) #[true, true, true, false, true, false, false, false, false, true, true, false, false, false] rfl rfl (any_of HT_.out (by kernel_rfl)) (fun _ _ _ h => h) (Or.inl ⟨by rfl, ?_⟩) ?_ ?_
                      rotate_left
                      · intro w'
                        go_simp
                        first | with_reducible rfl | (rw [if_neg (by have hz0_ : (⟨#[]⟩ : ByteArray).size = 0 := rfl; have hz1_ : (⟨#[0, 0]⟩ : ByteArray).size = 2 := rfl; (try simp only [decide_eq_true_eq, ByteArray.size_append, ByteArray.size_extract, eq_iff_iff, iff_true, iff_false, Nat.not_lt] at *); omega)]; try with_reducible rfl)
                      rotate_left
                      · simp only [Act.put, List.setIfInBounds_toArray, List.set_cons_zero, List.set_cons_succ, i64_w, i32_w]
                        rfl
                      refine take_ (i := 5) (N := some 26) (v := ?_) (a' := ?_) #[true, true, true, false, true, true, false, false, false, true, true, false, false, false] rfl rfl (take_ofW HT_.out HW_.out (by kernel_rfl)) (fun _ _ _ h => h) (Or.inl ⟨by rfl, ?_⟩) hHeld ?_ ?_
                      rotate_left
                      · rintro w' ⟨s0, s1, s2, s3⟩
                        go_simp
                        with_reducible rfl
                      rotate_left
                      · simp only [Act.put, List.setIfInBounds_toArray, List.set_cons_zero, List.set_cons_succ, i64_w, i32_w]
                        rfl
                      refine pure_ (i := 6) (N := some 27) (v := ?_) (a' := ?_) #[true, true, true, false, true, true, true, false, false, true, true, false, false, false] rfl rfl (any_of HT_.out (by kernel_rfl)) (fun _ _ _ h => h) (Or.inl ⟨by rfl, ?_⟩) ?_ ?_
                      rotate_left
                      · intro w'
                        go_simp
                        first | with_reducible rfl | (rw [if_neg (by have hz0_ : (⟨#[]⟩ : ByteArray).size = 0 := rfl; have hz1_ : (⟨#[0, 0]⟩ : ByteArray).size = 2 := rfl; (try simp only [decide_eq_true_eq, ByteArray.size_append, ByteArray.size_extract, eq_iff_iff, iff_true, iff_false, Nat.not_lt] at *); omega)]; try with_reducible rfl)
                      rotate_left
                      · simp only [Act.put, List.setIfInBounds_toArray, List.set_cons_zero, List.set_cons_succ, i64_w, i32_w]
                        rfl
                      refine one_ (i := 3) (N := some 24) #[true, true, true, true, true, true, true, false, false, true, true, false, false, false] rfl rfl (one_of HT_.out (by kernel_rfl)) (by decide) (fun K hK => ?_)
                      refine goes_ Tryd.func19 (by kernel_rfl) rfl #[.int .u64 (IntKind.u64.wrap (a2_0)), .int .i64 2] (by first | rfl | exact wanted_on rfl rfl rfl (by first | rfl | (simp [*]; done) | (simp [*, IntKind.wrap_u32]; done))) rfl rfl (by (try simp only [List.map_toArray, List.map_cons, List.map_nil]); first | done | rfl | (simp only [List.length_drop, List.length_take]; rfl)) ?_
                      with_reducible refine (gangwayref01_Bytes.calls k (IntKind.u64.wrap (a2_0)) 2 t147 _ A6.out).mono ?_
                      rintro e w42 ⟨rfl, hb⟩
                      refine ⟨_, rfl, ?_⟩
                      have n0_ := Aside0.mk (blk_below (g := gb145) (o := .cells #[.int .i64 a2_0, .int .i64 a2_1, .bool false, .string a2_3] 26 (0, 0)) (by (with_reducible repeat (first | refine blk_drewN ?_ _ | refine blk_drew ?_ | refine blk_alloc ?_ _)); exact BK145.out) hb)
                      have n1_ := Aside0.mk (below_step (by repeat (first | (with_reducible first | exact HB.out | apply below_alloc | apply pw_below_drewN | apply below_drew1 | refine below_set ?_ GE145.out) | exact HB.out)) hb)
                      clear BK145
                      clear HB
                      have BK145 := n0_
                      have HB := n1_
                      clear n0_ n1_
                      (try clear hb)
                      (try clear hb2)
                      (try clear hk)
                      (try clear hi)
                      refine hK.out _ _ ⟨(blk_cell BK145.out 0).trans rfl, (blk_cell BK145.out 1).trans rfl, (blk_cell BK145.out 2).trans rfl, (blk_cell BK145.out 3).trans rfl⟩ (fun hHeld => ?_)
                      clear hK K
                      refine norm_ (a' := ?_) ?_ ?_
                      rotate_left
                      · show Act.put _ (some 24) _ = _
                        simp only [Act.put, List.setIfInBounds_toArray, List.set_cons_zero, List.set_cons_succ, i64_w, i32_w]
                        rfl
                      refine one_ (i := 7) (N := some 28) #[true, true, true, true, true, true, true, true, false, true, true, false, false, false] rfl rfl (one_of HT_.out (by kernel_rfl)) (by decide) (fun K hK => ?_)
                      refine goes_ Tryd.func19 (by kernel_rfl) rfl #[.int .u64 (IntKind.u64.wrap (a2_1)), .int .i64 2] (by first | rfl | exact wanted_on rfl rfl rfl (by first | rfl | (simp [*]; done) | (simp [*, IntKind.wrap_u32]; done))) rfl rfl (by (try simp only [List.map_toArray, List.map_cons, List.map_nil]); first | done | rfl | (simp only [List.length_drop, List.length_take]; rfl)) ?_
                      with_reducible refine (gangwayref01_Bytes.calls k (IntKind.u64.wrap (a2_1)) 2 t148 _ A7.out).mono ?_
                      rintro e w43 ⟨rfl, hb⟩
                      refine ⟨_, rfl, ?_⟩
                      have n0_ := Aside0.mk (blk_below (g := gb145) (o := .cells #[.int .i64 a2_0, .int .i64 a2_1, .bool false, .string a2_3] 26 (0, 0)) (by (with_reducible repeat (first | refine blk_drewN ?_ _ | refine blk_drew ?_ | refine blk_alloc ?_ _)); exact BK145.out) hb)
                      have n1_ := Aside0.mk (below_step (by repeat (first | (with_reducible first | exact HB.out | apply below_alloc | apply pw_below_drewN | apply below_drew1 | refine below_set ?_ GE145.out) | exact HB.out)) hb)
                      clear BK145
                      clear HB
                      have BK145 := n0_
                      have HB := n1_
                      clear n0_ n1_
                      (try clear hb)
                      (try clear hb2)
                      (try clear hk)
                      (try clear hi)
                      refine hK.out _ _ ⟨(blk_cell BK145.out 0).trans rfl, (blk_cell BK145.out 1).trans rfl, (blk_cell BK145.out 2).trans rfl, (blk_cell BK145.out 3).trans rfl⟩ (fun hHeld => ?_)
                      clear hK K
                      refine norm_ (a' := ?_) ?_ ?_
                      rotate_left
                      · show Act.put _ (some 28) _ = _
                        simp only [Act.put, List.setIfInBounds_toArray, List.set_cons_zero, List.set_cons_succ, i64_w, i32_w]
                        rfl
                      refine pure_ (i := 8) (N := some 29) (v := ?_) (a' := ?_) #[true, true, true, true, true, true, true, true, true, true, true, false, false, false] rfl rfl (any_of HT_.out (by kernel_rfl)) (fun _ _ _ h => h) (Or.inl ⟨by rfl, ?_⟩) ?_ ?_
                      rotate_left
                      · intro w'
                        go_simp
                        first | with_reducible rfl | (rw [if_neg (by have hz0_ : (⟨#[]⟩ : ByteArray).size = 0 := rfl; have hz1_ : (⟨#[0, 0]⟩ : ByteArray).size = 2 := rfl; (try simp only [decide_eq_true_eq, ByteArray.size_append, ByteArray.size_extract, eq_iff_iff, iff_true, iff_false, Nat.not_lt] at *); omega)]; try with_reducible rfl)
                      rotate_left
                      · simp only [Act.put, List.setIfInBounds_toArray, List.set_cons_zero, List.set_cons_succ, i64_w, i32_w]
                        rfl
                      refine one_ (i := 11) (N := some 32) #[true, true, true, true, true, true, true, true, true, true, true, true, false, false] rfl rfl (one_of HT_.out (by kernel_rfl)) (by decide) (fun K hK => ?_)
                      refine goes_ Tryd.func19 (by kernel_rfl) rfl #[.int .u64 (IntKind.u64.wrap (wrap64 ((a2_3.size : Int) + 8))), .int .i64 2] (by first | rfl | exact wanted_on rfl rfl rfl (by first | rfl | (simp [*]; done) | (simp [*, IntKind.wrap_u32]; done))) rfl rfl (by (try simp only [List.map_toArray, List.map_cons, List.map_nil]); first | done | rfl | (simp only [List.length_drop, List.length_take]; rfl)) ?_
                      with_reducible refine (gangwayref01_Bytes.calls k (IntKind.u64.wrap (wrap64 ((a2_3.size : Int) + 8))) 2 t149 _ A9.out).mono ?_
                      rintro e w44 ⟨rfl, hb⟩
                      refine ⟨_, rfl, ?_⟩
                      have n0_ := Aside0.mk (blk_below (g := gb145) (o := .cells #[.int .i64 a2_0, .int .i64 a2_1, .bool false, .string a2_3] 26 (0, 0)) (by (with_reducible repeat (first | refine blk_drewN ?_ _ | refine blk_drew ?_ | refine blk_alloc ?_ _)); exact BK145.out) hb)
                      have n1_ := Aside0.mk (below_step (by repeat (first | (with_reducible first | exact HB.out | apply below_alloc | apply pw_below_drewN | apply below_drew1 | refine below_set ?_ GE145.out) | exact HB.out)) hb)
                      clear BK145
                      clear HB
                      have BK145 := n0_
                      have HB := n1_
                      clear n0_ n1_
                      (try clear hb)
                      (try clear hb2)
                      (try clear hk)
                      (try clear hi)
                      refine hK.out _ _ ⟨(blk_cell BK145.out 0).trans rfl, (blk_cell BK145.out 1).trans rfl, (blk_cell BK145.out 2).trans rfl, (blk_cell BK145.out 3).trans rfl⟩ (fun hHeld => ?_)
                      clear hK K
                      refine norm_ (a' := ?_) ?_ ?_
                      rotate_left
                      · show Act.put _ (some 32) _ = _
                        simp only [Act.put, List.setIfInBounds_toArray, List.set_cons_zero, List.set_cons_succ, i64_w, i32_w]
                        rfl
                      refine pure_ (i := 12) (N := some 33) (v := ?_) (a' := ?_) #[true, true, true, true, true, true, true, true, true, true, true, true, true, false] rfl rfl (any_of HT_.out (by kernel_rfl)) (fun _ _ _ h => h) (Or.inl ⟨by rfl, ?_⟩) ?_ ?_
                      rotate_left
                      · intro w'
                        go_simp
                        first | with_reducible rfl | (rw [if_neg (by have hz0_ : (⟨#[]⟩ : ByteArray).size = 0 := rfl; have hz1_ : (⟨#[0, 0]⟩ : ByteArray).size = 2 := rfl; (try simp only [decide_eq_true_eq, ByteArray.size_append, ByteArray.size_extract, eq_iff_iff, iff_true, iff_false, Nat.not_lt] at *); omega)]; try with_reducible rfl)
                      rotate_left
                      · simp only [Act.put, List.setIfInBounds_toArray, List.set_cons_zero, List.set_cons_succ, i64_w, i32_w]
                        rfl
                      refine pure_ (i := 13) (N := some 10) (v := ?_) (a' := ?_) #[true, true, true, true, true, true, true, true, true, true, true, true, true, true] rfl rfl (any_of HT_.out (by kernel_rfl)) (fun _ _ _ h => h) (Or.inl ⟨by rfl, ?_⟩) ?_ ?_
                      rotate_left
                      · intro w'
                        go_simp
                        first | with_reducible rfl | (rw [if_neg (by have hz0_ : (⟨#[]⟩ : ByteArray).size = 0 := rfl; have hz1_ : (⟨#[0, 0]⟩ : ByteArray).size = 2 := rfl; (try simp only [decide_eq_true_eq, ByteArray.size_append, ByteArray.size_extract, eq_iff_iff, iff_true, iff_false, Nat.not_lt] at *); omega)]; try with_reducible rfl)
                      rotate_left
                      · simp only [Act.put, List.setIfInBounds_toArray, List.set_cons_zero, List.set_cons_succ, i64_w, i32_w]
                        rfl
                      refine done_ (done_of HT_.out (by kernel_rfl)) ?_
                      try go_wp2
                      have n0_ := Aside0.mk (blk_drew BK145.out)
                      have n1_ := Aside0.mk (below_drew1 HB.out)
                      clear BK145
                      clear HB
                      have BK145 := n0_
                      have HB := n1_
                      clear n0_ n1_
                      refine start_ (n := 12) (S := fun w' => w'.cell? ⟨gb145, 0, none⟩ = some (.int .i64 a2_0) ∧ w'.cell? ⟨gb145, 1, none⟩ = some (.int .i64 a2_1) ∧ w'.cell? ⟨gb145, 2, none⟩ = some (.bool false) ∧ w'.cell? ⟨gb145, 3, none⟩ = some (.string a2_3)) (ds := []) #[false, false, false, false, false, false, false, false, false, false, false, false] (by kernel_rfl) rfl rfl ⟨(blk_cell BK145.out 0).trans rfl, (blk_cell BK145.out 1).trans rfl, (blk_cell BK145.out 2).trans rfl, (blk_cell BK145.out 3).trans rfl⟩ (fun hHeld => ?_); refine with_tabW gangwayref07_Build.tab6 gangwayref07_Build.bits6 (fun HT_ HW_ => ?_)
                      generalize w44.drew = w45 at BK145 HB hHeld ⊢
                      refine pure_ (i := 0) (N := some 34) (v := ?_) (a' := ?_) #[true, false, false, false, false, false, false, false, false, false, false, false] rfl rfl (any_of HT_.out (by kernel_rfl)) (fun _ _ _ h => h) (Or.inl ⟨by rfl, ?_⟩) ?_ ?_
                      rotate_left
                      · intro w'
                        go_simp
                        first | with_reducible rfl | (rw [if_neg (by have hz0_ : (⟨#[]⟩ : ByteArray).size = 0 := rfl; have hz1_ : (⟨#[0, 0]⟩ : ByteArray).size = 2 := rfl; (try simp only [decide_eq_true_eq, ByteArray.size_append, ByteArray.size_extract, eq_iff_iff, iff_true, iff_false, Nat.not_lt] at *); omega)]; try with_reducible rfl)
                      rotate_left
                      · simp only [Act.put, List.setIfInBounds_toArray, List.set_cons_zero, List.set_cons_succ, i64_w, i32_w]
                        rfl
                      refine pure_ (i := 1) (N := some 35) (v := ?_) (a' := ?_) #[true, true, false, false, false, false, false, false, false, false, false, false] rfl rfl (any_of HT_.out (by kernel_rfl)) (fun _ _ _ h => h) (Or.inl ⟨by rfl, ?_⟩) ?_ ?_
                      rotate_left
                      · intro w'
                        go_simp
                        first | with_reducible rfl | (rw [if_neg (by have hz0_ : (⟨#[]⟩ : ByteArray).size = 0 := rfl; have hz1_ : (⟨#[0, 0]⟩ : ByteArray).size = 2 := rfl; (try simp only [decide_eq_true_eq, ByteArray.size_append, ByteArray.size_extract, eq_iff_iff, iff_true, iff_false, Nat.not_lt] at *); omega)]; try with_reducible rfl)
                      rotate_left
                      · simp only [Act.put, List.setIfInBounds_toArray, List.set_cons_zero, List.set_cons_succ, i64_w, i32_w]
                        rfl
                      refine pure_ (i := 2) (N := some 36) (v := ?_) (a' := ?_) #[true, true, true, false, false, false, false, false, false, false, false, false] rfl rfl (any_of HT_.out (by kernel_rfl)) (fun _ _ _ h => h) (Or.inl ⟨by rfl, ?_⟩) ?_ ?_
                      rotate_left
                      · intro w'
                        go_simp
                        first | with_reducible rfl | (rw [if_neg (by have hz0_ : (⟨#[]⟩ : ByteArray).size = 0 := rfl; have hz1_ : (⟨#[0, 0]⟩ : ByteArray).size = 2 := rfl; (try simp only [decide_eq_true_eq, ByteArray.size_append, ByteArray.size_extract, eq_iff_iff, iff_true, iff_false, Nat.not_lt] at *); omega)]; try with_reducible rfl)
                      rotate_left
                      · simp only [Act.put, List.setIfInBounds_toArray, List.set_cons_zero, List.set_cons_succ, i64_w, i32_w]
                        rfl
                      refine pure_ (i := 4) (N := some 38) (v := ?_) (a' := ?_) #[true, true, true, false, true, false, false, false, false, false, false, false] rfl rfl (any_of HT_.out (by kernel_rfl)) (fun _ _ _ h => h) (Or.inl ⟨by rfl, ?_⟩) ?_ ?_
                      rotate_left
                      · intro w'
                        go_simp
                        first | with_reducible rfl | (rw [if_neg (by have hz0_ : (⟨#[]⟩ : ByteArray).size = 0 := rfl; have hz1_ : (⟨#[0, 0]⟩ : ByteArray).size = 2 := rfl; (try simp only [decide_eq_true_eq, ByteArray.size_append, ByteArray.size_extract, eq_iff_iff, iff_true, iff_false, Nat.not_lt] at *); omega)]; try with_reducible rfl)
                      rotate_left
                      · simp only [Act.put, List.setIfInBounds_toArray, List.set_cons_zero, List.set_cons_succ, i64_w, i32_w]
                        rfl
                      refine pure_ (i := 7) (N := some 41) (v := ?_) (a' := ?_) #[true, true, true, false, true, false, false, true, false, false, false, false] rfl rfl (any_of HT_.out (by kernel_rfl)) (fun _ _ _ h => h) (Or.inl ⟨by rfl, ?_⟩) ?_ ?_
                      rotate_left
                      · intro w'
                        go_simp
                        first | with_reducible rfl | (rw [if_neg (by have hz0_ : (⟨#[]⟩ : ByteArray).size = 0 := rfl; have hz1_ : (⟨#[0, 0]⟩ : ByteArray).size = 2 := rfl; (try simp only [decide_eq_true_eq, ByteArray.size_append, ByteArray.size_extract, eq_iff_iff, iff_true, iff_false, Nat.not_lt] at *); omega)]; try with_reducible rfl)
                      rotate_left
                      · simp only [Act.put, List.setIfInBounds_toArray, List.set_cons_zero, List.set_cons_succ, i64_w, i32_w]
                        rfl
                      refine take_ (i := 8) (N := some 42) (v := ?_) (a' := ?_) #[true, true, true, false, true, false, false, true, true, false, false, false] rfl rfl (take_ofW HT_.out HW_.out (by kernel_rfl)) (fun _ _ _ h => h) (Or.inl ⟨by rfl, ?_⟩) hHeld ?_ ?_
                      rotate_left
                      · rintro w' ⟨s0, s1, s2, s3⟩
                        go_simp
                        with_reducible rfl
                      rotate_left
                      · simp only [Act.put, List.setIfInBounds_toArray, List.set_cons_zero, List.set_cons_succ, i64_w, i32_w]
                        rfl
                      refine one_ (i := 3) (N := some 37) #[true, true, true, true, true, false, false, true, true, false, false, false] rfl rfl (one_of HT_.out (by kernel_rfl)) (by decide) (fun K hK => ?_)
                      refine goes_ Tryd.func21 (by kernel_rfl) rfl #[.int .u32 a0, .int .u32 a1, .int .i64 17, .int .i64 (wrap64 ((a2_3.size : Int) + 8))] (by first | rfl | exact wanted_on rfl rfl rfl (by first | rfl | (simp [*]; done) | (simp [*, IntKind.wrap_u32]; done))) rfl rfl (by (try simp only [List.map_toArray, List.map_cons, List.map_nil]); first | done | rfl | (simp only [List.length_drop, List.length_take]; rfl)) ?_
                      with_reducible refine (gangwayref03_Head.calls k a0 a1 17 (wrap64 ((a2_3.size : Int) + 8)) t150 _ A11.out).mono ?_
                      rintro e w46 ⟨rfl, hb⟩
                      refine ⟨_, rfl, ?_⟩
                      have n0_ := Aside0.mk (blk_below (g := gb145) (o := .cells #[.int .i64 a2_0, .int .i64 a2_1, .bool false, .string a2_3] 26 (0, 0)) (by (with_reducible repeat (first | refine blk_drewN ?_ _ | refine blk_drew ?_ | refine blk_alloc ?_ _)); exact BK145.out) hb)
                      have n1_ := Aside0.mk (below_step (by repeat (first | (with_reducible first | exact HB.out | apply below_alloc | apply pw_below_drewN | apply below_drew1 | refine below_set ?_ GE145.out) | exact HB.out)) hb)
                      clear BK145
                      clear HB
                      have BK145 := n0_
                      have HB := n1_
                      clear n0_ n1_
                      (try clear hb)
                      (try clear hb2)
                      (try clear hk)
                      (try clear hi)
                      refine hK.out _ _ ⟨(blk_cell BK145.out 0).trans rfl, (blk_cell BK145.out 1).trans rfl, (blk_cell BK145.out 2).trans rfl, (blk_cell BK145.out 3).trans rfl⟩ (fun hHeld => ?_)
                      clear hK K
                      refine norm_ (a' := ?_) ?_ ?_
                      rotate_left
                      · show Act.put _ (some 37) _ = _
                        simp only [Act.put, List.setIfInBounds_toArray, List.set_cons_zero, List.set_cons_succ, i64_w, i32_w]
                        rfl
                      refine pure_ (i := 5) (N := some 39) (v := ?_) (a' := ?_) #[true, true, true, true, true, true, false, true, true, false, false, false] rfl rfl (any_of HT_.out (by kernel_rfl)) (fun _ _ _ h => h) (Or.inl ⟨by rfl, ?_⟩) ?_ ?_
                      rotate_left
                      · intro w'
                        go_simp
                        first | with_reducible rfl | (rw [if_neg (by have hz0_ : (⟨#[]⟩ : ByteArray).size = 0 := rfl; have hz1_ : (⟨#[0, 0]⟩ : ByteArray).size = 2 := rfl; (try simp only [decide_eq_true_eq, ByteArray.size_append, ByteArray.size_extract, eq_iff_iff, iff_true, iff_false, Nat.not_lt] at *); omega)]; try with_reducible rfl)
                      rotate_left
                      · simp only [Act.put, List.setIfInBounds_toArray, List.set_cons_zero, List.set_cons_succ, i64_w, i32_w]
                        rfl
                      refine pure_ (i := 6) (N := some 40) (v := ?_) (a' := ?_) #[true, true, true, true, true, true, true, true, true, false, false, false] rfl rfl (any_of HT_.out (by kernel_rfl)) (fun _ _ _ h => h) (Or.inl ⟨by rfl, ?_⟩) ?_ ?_
                      rotate_left
                      · intro w'
                        go_simp
                        first | with_reducible rfl | (rw [if_neg (by have hz0_ : (⟨#[]⟩ : ByteArray).size = 0 := rfl; have hz1_ : (⟨#[0, 0]⟩ : ByteArray).size = 2 := rfl; (try simp only [decide_eq_true_eq, ByteArray.size_append, ByteArray.size_extract, eq_iff_iff, iff_true, iff_false, Nat.not_lt] at *); omega)]; try with_reducible rfl)
                      rotate_left
                      · simp only [Act.put, List.setIfInBounds_toArray, List.set_cons_zero, List.set_cons_succ, i64_w, i32_w]
                        rfl
                      refine pure_ (i := 9) (N := some 43) (v := ?_) (a' := ?_) #[true, true, true, true, true, true, true, true, true, true, false, false] rfl rfl (any_of HT_.out (by kernel_rfl)) (fun _ _ _ h => h) (Or.inl ⟨by rfl, ?_⟩) ?_ ?_
                      rotate_left
                      · intro w'
                        go_simp
                        first | with_reducible rfl | (rw [if_neg (by have hz0_ : (⟨#[]⟩ : ByteArray).size = 0 := rfl; have hz1_ : (⟨#[0, 0]⟩ : ByteArray).size = 2 := rfl; (try simp only [decide_eq_true_eq, ByteArray.size_append, ByteArray.size_extract, eq_iff_iff, iff_true, iff_false, Nat.not_lt] at *); omega)]; try with_reducible rfl)
                      rotate_left
                      · simp only [Act.put, List.setIfInBounds_toArray, List.set_cons_zero, List.set_cons_succ, i64_w, i32_w]
                        rfl
                      refine one_ (i := 10) (N := some 44) #[true, true, true, true, true, true, true, true, true, true, true, false] rfl rfl (one_of HT_.out (by kernel_rfl)) (by decide) (fun K hK => ?_)
                      refine goes_ Tryd.func20 (by kernel_rfl) rfl #[.string (((t150 ++ ((t147 ++ t148) ++ t149)) ++ (⟨#[0, 0]⟩ : ByteArray)) ++ a2_3)] (by first | rfl | exact wanted_on rfl rfl rfl (by first | rfl | (simp [*]; done) | (simp [*, IntKind.wrap_u32]; done))) rfl rfl (by (try simp only [List.map_toArray, List.map_cons, List.map_nil]); first | done | rfl | (simp only [List.length_drop, List.length_take]; rfl)) ?_
                      with_reducible refine (gangwayref03_Of.calls k (((t150 ++ ((t147 ++ t148) ++ t149)) ++ (⟨#[0, 0]⟩ : ByteArray)) ++ a2_3) t151 _ A15.out).mono ?_
                      rintro e w' ⟨rfl, ⟨nd, rfl⟩⟩
                      refine ⟨_, rfl, ?_⟩
                      refine hK.out _ _ ⟨(blk_cell BK145.out 0).trans rfl, (blk_cell BK145.out 1).trans rfl, (blk_cell BK145.out 2).trans rfl, (blk_cell BK145.out 3).trans rfl⟩ (fun hHeld => ?_)
                      clear hK K
                      refine norm_ (a' := ?_) ?_ ?_
                      rotate_left
                      · show Act.put _ (some 44) _ = _
                        simp only [Act.put, List.setIfInBounds_toArray, List.set_cons_zero, List.set_cons_succ, i64_w, i32_w]
                        rfl
                      refine pure_ (i := 11) (N := some 11) (v := ?_) (a' := ?_) #[true, true, true, true, true, true, true, true, true, true, true, true] rfl rfl (any_of HT_.out (by kernel_rfl)) (fun _ _ _ h => h) (Or.inl ⟨by rfl, ?_⟩) ?_ ?_
                      rotate_left
                      · intro w'
                        go_simp
                        first | with_reducible rfl | (rw [if_neg (by have hz0_ : (⟨#[]⟩ : ByteArray).size = 0 := rfl; have hz1_ : (⟨#[0, 0]⟩ : ByteArray).size = 2 := rfl; (try simp only [decide_eq_true_eq, ByteArray.size_append, ByteArray.size_extract, eq_iff_iff, iff_true, iff_false, Nat.not_lt] at *); omega)]; try with_reducible rfl)
                      rotate_left
                      · simp only [Act.put, List.setIfInBounds_toArray, List.set_cons_zero, List.set_cons_succ, i64_w, i32_w]
                        rfl
                      refine done_ (done_of HT_.out (by kernel_rfl)) ?_
                      have hcz47_0 : w46.cell? ⟨gb145, 0, none⟩ = some (.int .i64 a2_0) := (blk_cell BK145.out 0).trans rfl
                      have hcz47_1 : w46.cell? ⟨gb145, 1, none⟩ = some (.int .i64 a2_1) := (blk_cell BK145.out 1).trans rfl
                      have hcz47_2 : w46.cell? ⟨gb145, 2, none⟩ = some (.bool false) := (blk_cell BK145.out 2).trans rfl
                      have hcz47_3 : w46.cell? ⟨gb145, 3, none⟩ = some (.string a2_3) := (blk_cell BK145.out 3).trans rfl
                      have hfz47_0 := blk_frozen BK145.out 0
                      have hfz47_1 := blk_frozen BK145.out 1
                      have hfz47_2 := blk_frozen BK145.out 2
                      have hfz47_3 := blk_frozen BK145.out 3
                      try go_wp2
                      (try (rw [drewN_self w46]; generalize hq_ : World.drewN w46 _ = w46; have n0_ : Aside0 (w46.heap[gb145]? = some (.cells #[.int .i64 a2_0, .int .i64 a2_1, .bool false, .string a2_3] 26 (0, 0))) := ⟨by rw [← hq_]; exact (by (with_reducible repeat (first | refine blk_drewN ?_ _ | refine blk_drew ?_ | refine blk_alloc ?_ _)); exact BK145.out)⟩; have n1_ : Aside0 (Below w.heap.size w w46) := ⟨by rw [← hq_]; exact (by repeat (first | (with_reducible first | exact HB.out | apply below_alloc | apply pw_below_drewN | apply below_drew1 | refine below_set ?_ GE145.out) | exact HB.out))⟩; clear BK145 HB hq_; have BK145 := n0_; have HB := n1_; clear n0_ n1_))
                      have n0_ := Aside0.mk (blk_drew BK145.out)
                      have n1_ := Aside0.mk (below_drew1 HB.out)
                      clear BK145
                      clear HB
                      have BK145 := n0_
                      have HB := n1_
                      clear n0_ n1_
                      refine start_ (n := 10) (S := fun w' => w'.cell? ⟨gb145, 0, none⟩ = some (.int .i64 a2_0) ∧ w'.cell? ⟨gb145, 1, none⟩ = some (.int .i64 a2_1) ∧ w'.cell? ⟨gb145, 2, none⟩ = some (.bool false) ∧ w'.cell? ⟨gb145, 3, none⟩ = some (.string a2_3)) (ds := []) #[false, false, false, false, false, false, false, false, false, false] (by kernel_rfl) rfl rfl ⟨(blk_cell BK145.out 0).trans rfl, (blk_cell BK145.out 1).trans rfl, (blk_cell BK145.out 2).trans rfl, (blk_cell BK145.out 3).trans rfl⟩ (fun hHeld => ?_); refine with_tabW gangwayref07_Build.tab11 gangwayref07_Build.bits11 (fun HT_ HW_ => ?_)
                      generalize w46.drew = w48 at BK145 HB hHeld ⊢
                      refine pure_ (i := 0) (N := some 49) (v := ?_) (a' := ?_) #[true, false, false, false, false, false, false, false, false, false] rfl rfl (any_of HT_.out (by kernel_rfl)) (fun _ _ _ h => h) (Or.inl ⟨by rfl, ?_⟩) ?_ ?_
                      rotate_left
                      · intro w'
                        go_simp
                        first | with_reducible rfl | (rw [if_neg (by have hz0_ : (⟨#[]⟩ : ByteArray).size = 0 := rfl; have hz1_ : (⟨#[0, 0]⟩ : ByteArray).size = 2 := rfl; (try simp only [decide_eq_true_eq, ByteArray.size_append, ByteArray.size_extract, eq_iff_iff, iff_true, iff_false, Nat.not_lt] at *); omega)]; try with_reducible rfl)
                      rotate_left
                      · simp only [Act.put, List.setIfInBounds_toArray, List.set_cons_zero, List.set_cons_succ, i64_w, i32_w]
                        rfl
                      refine pure_ (i := 1) (N := some 50) (v := ?_) (a' := ?_) #[true, true, false, false, false, false, false, false, false, false] rfl rfl (any_of HT_.out (by kernel_rfl)) (fun _ _ _ h => h) (Or.inl ⟨by rfl, ?_⟩) ?_ ?_
                      rotate_left
                      · intro w'
                        go_simp
                        first | with_reducible rfl | (rw [if_neg (by have hz0_ : (⟨#[]⟩ : ByteArray).size = 0 := rfl; have hz1_ : (⟨#[0, 0]⟩ : ByteArray).size = 2 := rfl; (try simp only [decide_eq_true_eq, ByteArray.size_append, ByteArray.size_extract, eq_iff_iff, iff_true, iff_false, Nat.not_lt] at *); omega)]; try with_reducible rfl)
                      rotate_left
                      · simp only [Act.put, List.setIfInBounds_toArray, List.set_cons_zero, List.set_cons_succ, i64_w, i32_w]
                        rfl
                      refine pure_ (i := 2) (N := some 51) (v := ?_) (a' := ?_) #[true, true, true, false, false, false, false, false, false, false] rfl rfl (any_of HT_.out (by kernel_rfl)) (fun _ _ _ h => h) (Or.inl ⟨by rfl, ?_⟩) ?_ ?_
                      rotate_left
                      · intro w'
                        go_simp
                        first | with_reducible rfl | (rw [if_neg (by have hz0_ : (⟨#[]⟩ : ByteArray).size = 0 := rfl; have hz1_ : (⟨#[0, 0]⟩ : ByteArray).size = 2 := rfl; (try simp only [decide_eq_true_eq, ByteArray.size_append, ByteArray.size_extract, eq_iff_iff, iff_true, iff_false, Nat.not_lt] at *); omega)]; try with_reducible rfl)
                      rotate_left
                      · simp only [Act.put, List.setIfInBounds_toArray, List.set_cons_zero, List.set_cons_succ, i64_w, i32_w]
                        rfl
                      refine pure_ (i := 5) (N := some 54) (v := ?_) (a' := ?_) #[true, true, true, false, false, true, false, false, false, false] rfl rfl (any_of HT_.out (by kernel_rfl)) (fun _ _ _ h => h) (Or.inl ⟨by rfl, ?_⟩) ?_ ?_
                      rotate_left
                      · intro w'
                        go_simp
                        first | with_reducible rfl | (rw [if_neg (by have hz0_ : (⟨#[]⟩ : ByteArray).size = 0 := rfl; have hz1_ : (⟨#[0, 0]⟩ : ByteArray).size = 2 := rfl; (try simp only [decide_eq_true_eq, ByteArray.size_append, ByteArray.size_extract, eq_iff_iff, iff_true, iff_false, Nat.not_lt] at *); omega)]; try with_reducible rfl)
                      rotate_left
                      · simp only [Act.put, List.setIfInBounds_toArray, List.set_cons_zero, List.set_cons_succ, i64_w, i32_w]
                        rfl
                      refine take_ (i := 6) (N := some 55) (v := ?_) (a' := ?_) #[true, true, true, false, false, true, true, false, false, false] rfl rfl (take_ofW HT_.out HW_.out (by kernel_rfl)) (fun _ _ _ h => h) (Or.inl ⟨by rfl, ?_⟩) hHeld ?_ ?_
                      rotate_left
                      · rintro w' ⟨s0, s1, s2, s3⟩
                        go_simp
                        with_reducible rfl
                      rotate_left
                      · simp only [Act.put, List.setIfInBounds_toArray, List.set_cons_zero, List.set_cons_succ, i64_w, i32_w]
                        rfl
                      refine one_ (i := 3) (N := some 52) #[true, true, true, true, false, true, true, false, false, false] rfl rfl (one_of HT_.out (by kernel_rfl)) (by decide) (fun K hK => ?_)
                      refine goes_ Tryd.func19 (by kernel_rfl) rfl #[.int .u64 65535, .int .i64 2] (by first | rfl | exact wanted_on rfl rfl rfl (by first | rfl | (simp [*]; done) | (simp [*, IntKind.wrap_u32]; done))) rfl rfl (by (try simp only [List.map_toArray, List.map_cons, List.map_nil]); first | done | rfl | (simp only [List.length_drop, List.length_take]; rfl)) ?_
                      with_reducible refine (gangwayref01_Bytes.calls k 65535 2 t153 _ A34.out).mono ?_
                      rintro e w49 ⟨rfl, hb⟩
                      refine ⟨_, rfl, ?_⟩
                      have n0_ := Aside0.mk (blk_below (g := gb145) (o := .cells #[.int .i64 a2_0, .int .i64 a2_1, .bool false, .string a2_3] 26 (0, 0)) (by (with_reducible repeat (first | refine blk_drewN ?_ _ | refine blk_drew ?_ | refine blk_alloc ?_ _)); exact BK145.out) hb)
                      have n1_ := Aside0.mk (below_step (by repeat (first | (with_reducible first | exact HB.out | apply below_alloc | apply pw_below_drewN | apply below_drew1 | refine below_set ?_ GE145.out) | exact HB.out)) hb)
                      clear BK145
                      clear HB
                      have BK145 := n0_
                      have HB := n1_
                      clear n0_ n1_
                      (try clear hb)
                      (try clear hb2)
                      (try clear hk)
                      (try clear hi)
                      refine hK.out _ _ ⟨(blk_cell BK145.out 0).trans rfl, (blk_cell BK145.out 1).trans rfl, (blk_cell BK145.out 2).trans rfl, (blk_cell BK145.out 3).trans rfl⟩ (fun hHeld => ?_)
                      clear hK K
                      refine norm_ (a' := ?_) ?_ ?_
                      rotate_left
                      · show Act.put _ (some 52) _ = _
                        simp only [Act.put, List.setIfInBounds_toArray, List.set_cons_zero, List.set_cons_succ, i64_w, i32_w]
                        rfl
                      refine pure_ (i := 4) (N := some 53) (v := ?_) (a' := ?_) #[true, true, true, true, true, true, true, false, false, false] rfl rfl (any_of HT_.out (by kernel_rfl)) (fun _ _ _ h => h) (Or.inl ⟨by rfl, ?_⟩) ?_ ?_
                      rotate_left
                      · intro w'
                        go_simp
                        first | with_reducible rfl | (rw [if_neg (by have hz0_ : (⟨#[]⟩ : ByteArray).size = 0 := rfl; have hz1_ : (⟨#[0, 0]⟩ : ByteArray).size = 2 := rfl; (try simp only [decide_eq_true_eq, ByteArray.size_append, ByteArray.size_extract, eq_iff_iff, iff_true, iff_false, Nat.not_lt] at *); omega)]; try with_reducible rfl)
                      rotate_left
                      · simp only [Act.put, List.setIfInBounds_toArray, List.set_cons_zero, List.set_cons_succ, i64_w, i32_w]
                        rfl
                      refine pure_ (i := 7) (N := some 56) (v := ?_) (a' := ?_) #[true, true, true, true, true, true, true, true, false, false] rfl rfl (any_of HT_.out (by kernel_rfl)) (fun _ _ _ h => h) (Or.inl ⟨by rfl, ?_⟩) ?_ ?_
                      rotate_left
                      · intro w'
                        go_simp
                        first | with_reducible rfl | (rw [if_neg (by have hz0_ : (⟨#[]⟩ : ByteArray).size = 0 := rfl; have hz1_ : (⟨#[0, 0]⟩ : ByteArray).size = 2 := rfl; (try simp only [decide_eq_true_eq, ByteArray.size_append, ByteArray.size_extract, eq_iff_iff, iff_true, iff_false, Nat.not_lt] at *); omega)]; try with_reducible rfl)
                      rotate_left
                      · simp only [Act.put, List.setIfInBounds_toArray, List.set_cons_zero, List.set_cons_succ, i64_w, i32_w]
                        rfl
                      refine pure_ (i := 8) (N := some 6) (v := ?_) (a' := ?_) #[true, true, true, true, true, true, true, true, true, false] rfl rfl (any_of HT_.out (by kernel_rfl)) (fun _ _ _ h => h) (Or.inl ⟨by rfl, ?_⟩) ?_ ?_
                      rotate_left
                      · intro w'
                        go_simp
                        first | with_reducible rfl | (rw [if_neg (by have hz0_ : (⟨#[]⟩ : ByteArray).size = 0 := rfl; have hz1_ : (⟨#[0, 0]⟩ : ByteArray).size = 2 := rfl; (try simp only [decide_eq_true_eq, ByteArray.size_append, ByteArray.size_extract, eq_iff_iff, iff_true, iff_false, Nat.not_lt] at *); omega)]; try with_reducible rfl)
                      rotate_left
                      · simp only [Act.put, List.setIfInBounds_toArray, List.set_cons_zero, List.set_cons_succ, i64_w, i32_w]
                        rfl
                      refine pure_ (i := 9) (N := some 7) (v := ?_) (a' := ?_) #[true, true, true, true, true, true, true, true, true, true] rfl rfl (any_of HT_.out (by kernel_rfl)) (fun _ _ _ h => h) (Or.inl ⟨by rfl, ?_⟩) ?_ ?_
                      rotate_left
                      · intro w'
                        go_simp
                        first | with_reducible rfl | (rw [if_neg (by have hz0_ : (⟨#[]⟩ : ByteArray).size = 0 := rfl; have hz1_ : (⟨#[0, 0]⟩ : ByteArray).size = 2 := rfl; (try simp only [decide_eq_true_eq, ByteArray.size_append, ByteArray.size_extract, eq_iff_iff, iff_true, iff_false, Nat.not_lt] at *); omega)]; try with_reducible rfl)
                      rotate_left
                      · simp only [Act.put, List.setIfInBounds_toArray, List.set_cons_zero, List.set_cons_succ, i64_w, i32_w]
                        rfl
                      refine done_ (done_of HT_.out (by kernel_rfl)) ?_
                      try go_wp2
                      go_ret2
                      exact ⟨by first | rfl | (simp [errW_none, errW_some] <;> rfl) | (simp [*, errW_none, errW_some] <;> rfl) | (simp [*, IntKind.wrap_u32]; done) | (simp_all [IntKind.wrap_u32]; done), by repeat (first | (with_reducible first | exact HB.out | apply below_alloc | apply pw_below_drewN | apply below_drew1 | refine below_set ?_ GE145.out) | exact HB.out)⟩
                    · rw [if_neg c36] at H
                      exact absurd H (by simp)
                  · rw [if_neg c35] at H
                    exact absurd H (by simp)
              · rw [if_neg c16] at H
                have c16b0 : (t151 == 0) = false := beq_eq_false_iff_ne.mpr c16
                have c16b1 : (t151 != 0) = true := bne_iff_ne.mpr c16
                by_cases c50 : a2_2 = true
                · subst c50
                  have H1 : ((gangwayref01_Bytes.f k 0 2).bind fun t154 => (if ((t147 ++ t148) ++ t149).size + t154.size ≤ 9223372036854775807 then (if (((t147 ++ t148) ++ t149) ++ t154).size + a2_3.size ≤ 9223372036854775807 then (some ((((t147 ++ t148) ++ t149) ++ t154) ++ a2_3, 0)) else (none)) else (none))) = some (r1, r2) := by rw [if_pos rfl] at H; exact H
                  clear H
                  have H := H1
                  clear H1
                  replace H := Option.bind_eq_some_iff.mp H
                  obtain ⟨t154, A510, H⟩ := H
                  replace H : (if ((t147 ++ t148) ++ t149).size + t154.size ≤ 9223372036854775807 then (if (((t147 ++ t148) ++ t149) ++ t154).size + a2_3.size ≤ 9223372036854775807 then (some ((((t147 ++ t148) ++ t149) ++ t154) ++ a2_3, 0)) else (none)) else (none)) = some (r1, r2) := H
                  have A51 := Aside0.mk A510
                  clear A510
                  by_cases c52 : ((t147 ++ t148) ++ t149).size + t154.size ≤ 9223372036854775807
                  · rw [if_pos c52] at H
                    have c52b0 := eq_true c52
                    have c52b1 : decide (((t147 ++ t148) ++ t149).size + t154.size ≤ 9223372036854775807) = true := decide_eq_true c52
                    have c52z := c52
                    simp only [ByteArray.size_append] at c52z
                    have c52z1 := eq_true c52z
                    have c52z2 := eq_false (Nat.not_lt.2 c52z)
                    try have c52b2 : (9223372036854775807 < ((t147 ++ t148) ++ t149).size + t154.size) = False := eq_false (Nat.not_lt.2 c52)
                    by_cases c53 : (((t147 ++ t148) ++ t149) ++ t154).size + a2_3.size ≤ 9223372036854775807
                    · rw [if_pos c53] at H
                      have c53b0 := eq_true c53
                      have c53b1 : decide ((((t147 ++ t148) ++ t149) ++ t154).size + a2_3.size ≤ 9223372036854775807) = true := decide_eq_true c53
                      have c53z := c53
                      simp only [ByteArray.size_append] at c53z
                      have c53z1 := eq_true c53z
                      have c53z2 := eq_false (Nat.not_lt.2 c53z)
                      try have c53b2 : (9223372036854775807 < (((t147 ++ t148) ++ t149) ++ t154).size + a2_3.size) = False := eq_false (Nat.not_lt.2 c53)
                      simp only [Option.some.injEq, Prod.mk.injEq] at H
                      obtain ⟨rfl, rfl⟩ := H
                      go_enter Tryd.func10, Tryd.ntmps10
                      try go_wp2_with (first | ((with_reducible refine gate_dst (N := 5) rfl ?_); refine box_event ?hg (N := 5) ?hd (cs := #[.int .i64 a2_0, .int .i64 a2_1, .bool true, .string a2_3]) (t := 26) ?hr ?_; (case hd => rfl); (case hg => rfl); (case hr => first | (go_simp; done) | (go_simp; rfl)); intro gb145 hg w54 hbox hb; have n0_ := Aside0.mk (below_step (by repeat (first | (with_reducible first | exact HB.out | apply below_alloc | apply pw_below_drewN | apply below_drew1) | exact HB.out)) hb); have n1_ := Aside0.mk (hbox); have n2_ := Aside0.mk ((by rw [hg]; exact (below_size (by repeat (first | (with_reducible first | exact HB.out | apply below_alloc | apply pw_below_drewN | apply below_drew1) | exact HB.out))) : w.heap.size ≤ gb145)); have n3_ := Aside0.mk ((by rw [hg]; exact (below_size (by repeat (first | (with_reducible first | exact HB.out | apply below_alloc | apply pw_below_drewN | apply below_drew1) | exact HB.out))) : w.heap.size ≤ gb145)); clear HB; have HB := n0_; have BK145 := n1_; have GW145 := n2_; have GE145 := n3_; clear n0_ n1_ n2_ n3_; clear hb hbox hg; have hcz55_0 : w54.cell? ⟨gb145, 0, none⟩ = some (.int .i64 a2_0) := (blk_cell BK145.out 0).trans rfl; have hcz55_1 : w54.cell? ⟨gb145, 1, none⟩ = some (.int .i64 a2_1) := (blk_cell BK145.out 1).trans rfl; have hcz55_2 : w54.cell? ⟨gb145, 2, none⟩ = some (.bool true) := (blk_cell BK145.out 2).trans rfl; have hcz55_3 : w54.cell? ⟨gb145, 3, none⟩ = some (.string a2_3) := (blk_cell BK145.out 3).trans rfl; have hfz55_0 := blk_frozen BK145.out 0; have hfz55_1 := blk_frozen BK145.out 1; have hfz55_2 := blk_frozen BK145.out 2; have hfz55_3 := blk_frozen BK145.out 3) | ((with_reducible refine gate_callee (f := 13) rfl ?_); refine goesL_ (some 13) rfl rfl Tryd.func13 (by kernel_rfl) rfl #[.agg #[.int .i64 a2_0, .int .i64 a2_1, .bool true, .string a2_3]] rfl (by (try simp only [List.map_toArray, List.map_cons, List.map_nil]); first | done | rfl | (simp only [List.length_drop, List.length_take]; rfl)) ?_; (with_reducible refine (gangwayref07_Check.calls a2_0 a2_1 true a2_3 t146 _ A4.out).mono ?_); rintro e w56 ⟨rfl, hb⟩; refine ⟨_, rfl, ?_⟩; have n0_ := Aside0.mk (blk_below (g := gb145) (o := .cells #[.int .i64 a2_0, .int .i64 a2_1, .bool true, .string a2_3] 26 (0, 0)) (by (with_reducible repeat (first | refine blk_drewN ?_ _ | refine blk_drew ?_ | refine blk_alloc ?_ _)); exact BK145.out) hb); have n1_ := Aside0.mk (below_step (by repeat (first | (with_reducible first | exact HB.out | apply below_alloc | apply pw_below_drewN | apply below_drew1 | refine below_set ?_ GE145.out) | exact HB.out)) hb); clear BK145; clear HB; have BK145 := n0_; have HB := n1_; clear n0_ n1_; have hcy1_145_0 := (show World.cell? _ ⟨gb145, 0, none⟩ = some (.int .i64 a2_0) from (blk_cell BK145.out 0).trans rfl); have hcy1_145_1 := (show World.cell? _ ⟨gb145, 1, none⟩ = some (.int .i64 a2_1) from (blk_cell BK145.out 1).trans rfl); have hcy1_145_2 := (show World.cell? _ ⟨gb145, 2, none⟩ = some (.bool true) from (blk_cell BK145.out 2).trans rfl); have hcy1_145_3 := (show World.cell? _ ⟨gb145, 3, none⟩ = some (.string a2_3) from (blk_cell BK145.out 3).trans rfl); (try clear hb); (try clear hb2); (try clear hk); (try clear hi); have hcz57_0 : w56.cell? ⟨gb145, 0, none⟩ = some (.int .i64 a2_0) := (blk_cell BK145.out 0).trans rfl; have hcz57_1 : w56.cell? ⟨gb145, 1, none⟩ = some (.int .i64 a2_1) := (blk_cell BK145.out 1).trans rfl; have hcz57_2 : w56.cell? ⟨gb145, 2, none⟩ = some (.bool true) := (blk_cell BK145.out 2).trans rfl; have hcz57_3 : w56.cell? ⟨gb145, 3, none⟩ = some (.string a2_3) := (blk_cell BK145.out 3).trans rfl; have hfz57_0 := blk_frozen BK145.out 0; have hfz57_1 := blk_frozen BK145.out 1; have hfz57_2 := blk_frozen BK145.out 2; have hfz57_3 := blk_frozen BK145.out 3))
                      have n0_ := Aside0.mk (blk_drew BK145.out)
                      have n1_ := Aside0.mk (below_drew1 HB.out)
                      clear BK145
                      clear HB
                      have BK145 := n0_
                      have HB := n1_
                      clear n0_ n1_
                      refine start_ (n := 14) (S := fun w' => w'.cell? ⟨gb145, 0, none⟩ = some (.int .i64 a2_0) ∧ w'.cell? ⟨gb145, 1, none⟩ = some (.int .i64 a2_1) ∧ w'.cell? ⟨gb145, 2, none⟩ = some (.bool true) ∧ w'.cell? ⟨gb145, 3, none⟩ = some (.string a2_3)) (ds := []) #[false, false, false, false, false, false, false, false, false, false, false, false, false, false] (by kernel_rfl) rfl rfl ⟨(blk_cell BK145.out 0).trans rfl, (blk_cell BK145.out 1).trans rfl, (blk_cell BK145.out 2).trans rfl, (blk_cell BK145.out 3).trans rfl⟩ (fun hHeld => ?_); refine with_tabW gangwayref07_Build.tab5 gangwayref07_Build.bits5 (fun HT_ HW_ => ?_)
                      generalize w56.drew = w58 at BK145 HB hHeld ⊢
                      refine pure_ (i := 0) (N := some 21) (v := ?_) (a' := ?_) #[true, false, false, false, false, false, false, false, false, false, false, false, false, false] rfl rfl (any_of HT_.out (by kernel_rfl)) (fun _ _ _ h => h) (Or.inl ⟨by rfl, ?_⟩) ?_ ?_
                      rotate_left
                      · intro w'
                        go_simp
                        first | with_reducible rfl | (rw [if_neg (by have hz0_ : (⟨#[]⟩ : ByteArray).size = 0 := rfl; have hz1_ : (⟨#[0, 0]⟩ : ByteArray).size = 2 := rfl; (try simp only [decide_eq_true_eq, ByteArray.size_append, ByteArray.size_extract, eq_iff_iff, iff_true, iff_false, Nat.not_lt] at *); omega)]; try with_reducible rfl)
                      rotate_left
                      · simp only [Act.put, List.setIfInBounds_toArray, List.set_cons_zero, List.set_cons_succ, i64_w, i32_w]
                        rfl
                      refine pure_ (i := 4) (N := some 25) (v := ?_) (a' := ?_) #[true, false, false, false, true, false, false, false, false, false, false, false, false, false] rfl rfl (any_of HT_.out (by kernel_rfl)) (fun _ _ _ h => h) (Or.inl ⟨by rfl, ?_⟩) ?_ ?_
                      rotate_left
                      · intro w'
                        go_simp
                        first | with_reducible rfl | (rw [if_neg (by have hz0_ : (⟨#[]⟩ : ByteArray).size = 0 := rfl; have hz1_ : (⟨#[0, 0]⟩ : ByteArray).size = 2 := rfl; (try simp only [decide_eq_true_eq, ByteArray.size_append, ByteArray.size_extract, eq_iff_iff, iff_true, iff_false, Nat.not_lt] at *); omega)]; try with_reducible rfl)
                      rotate_left
                      · simp only [Act.put, List.setIfInBounds_toArray, List.set_cons_zero, List.set_cons_succ, i64_w, i32_w]
                        rfl
                      refine pure_ (i := 9) (N := some 30) (v := ?_) (a' := ?_) #[true, false, false, false, true, false, false, false, false, true, false, false, false, false] rfl rfl (any_of HT_.out (by kernel_rfl)) (fun _ _ _ h => h) (Or.inl ⟨by rfl, ?_⟩) ?_ ?_
                      rotate_left
                      · intro w'
                        go_simp
                        first | with_reducible rfl | (rw [if_neg (by have hz0_ : (⟨#[]⟩ : ByteArray).size = 0 := rfl; have hz1_ : (⟨#[0, 0]⟩ : ByteArray).size = 2 := rfl; (try simp only [decide_eq_true_eq, ByteArray.size_append, ByteArray.size_extract, eq_iff_iff, iff_true, iff_false, Nat.not_lt] at *); omega)]; try with_reducible rfl)
                      rotate_left
                      · simp only [Act.put, List.setIfInBounds_toArray, List.set_cons_zero, List.set_cons_succ, i64_w, i32_w]
                        rfl
                      refine pure_ (i := 10) (N := some 31) (v := ?_) (a' := ?_) #[true, false, false, false, true, false, false, false, false, true, true, false, false, false] rfl rfl (any_of HT_.out (by kernel_rfl)) (fun _ _ _ h => h) (Or.inl ⟨by rfl, ?_⟩) ?_ ?_
                      rotate_left
                      · intro w'
                        go_simp
                        first | with_reducible rfl | (rw [if_neg (by have hz0_ : (⟨#[]⟩ : ByteArray).size = 0 := rfl; have hz1_ : (⟨#[0, 0]⟩ : ByteArray).size = 2 := rfl; (try simp only [decide_eq_true_eq, ByteArray.size_append, ByteArray.size_extract, eq_iff_iff, iff_true, iff_false, Nat.not_lt] at *); omega)]; try with_reducible rfl)
                      rotate_left
                      · simp only [Act.put, List.setIfInBounds_toArray, List.set_cons_zero, List.set_cons_succ, i64_w, i32_w]
                        rfl
                      refine take_ (i := 1) (N := some 22) (v := ?_) (a' := ?_) #[true, true, false, false, true, false, false, false, false, true, true, false, false, false] rfl rfl (take_ofW HT_.out HW_.out (by kernel_rfl)) (fun _ _ _ h => h) (Or.inl ⟨by rfl, ?_⟩) hHeld ?_ ?_
                      rotate_left
                      · rintro w' ⟨s0, s1, s2, s3⟩
                        go_simp
                        with_reducible rfl
                      rotate_left
                      · simp only [Act.put, List.setIfInBounds_toArray, List.set_cons_zero, List.set_cons_succ, i64_w, i32_w]
                        rfl
                      refine pure_ (i := 2) (N := some 23) (v := ?_) (a' := ?_) #[true, true, true, false, true, false, false, false, false, true, true, false, false, false] rfl rfl (any_of HT_.out (by kernel_rfl)) (fun _ _ _ h => h) (Or.inl ⟨by rfl, ?_⟩) ?_ ?_
                      rotate_left
                      · intro w'
                        go_simp
                        first | with_reducible rfl | (rw [if_neg (by have hz0_ : (⟨#[]⟩ : ByteArray).size = 0 := rfl; have hz1_ : (⟨#[0, 0]⟩ : ByteArray).size = 2 := rfl; (try simp only [decide_eq_true_eq, ByteArray.size_append, ByteArray.size_extract, eq_iff_iff, iff_true, iff_false, Nat.not_lt] at *); omega)]; try with_reducible rfl)
                      rotate_left
                      · simp only [Act.put, List.setIfInBounds_toArray, List.set_cons_zero, List.set_cons_succ, i64_w, i32_w]
                        rfl
                      refine take_ (i := 5) (N := some 26) (v := ?_) (a' := ?_) #[true, true, true, false, true, true, false, false, false, true, true, false, false, false] rfl rfl (take_ofW HT_.out HW_.out (by kernel_rfl)) (fun _ _ _ h => h) (Or.inl ⟨by rfl, ?_⟩) hHeld ?_ ?_
                      rotate_left
                      · rintro w' ⟨s0, s1, s2, s3⟩
                        go_simp
                        with_reducible rfl
                      rotate_left
                      · simp only [Act.put, List.setIfInBounds_toArray, List.set_cons_zero, List.set_cons_succ, i64_w, i32_w]
                        rfl
                      refine pure_ (i := 6) (N := some 27) (v := ?_) (a' := ?_) #[true, true, true, false, true, true, true, false, false, true, true, false, false, false] rfl rfl (any_of HT_.out (by kernel_rfl)) (fun _ _ _ h => h) (Or.inl ⟨by rfl, ?_⟩) ?_ ?_
                      rotate_left
                      · intro w'
                        go_simp
                        first | with_reducible rfl | (rw [if_neg (by have hz0_ : (⟨#[]⟩ : ByteArray).size = 0 := rfl; have hz1_ : (⟨#[0, 0]⟩ : ByteArray).size = 2 := rfl; (try simp only [decide_eq_true_eq, ByteArray.size_append, ByteArray.size_extract, eq_iff_iff, iff_true, iff_false, Nat.not_lt] at *); omega)]; try with_reducible rfl)
                      rotate_left
                      · simp only [Act.put, List.setIfInBounds_toArray, List.set_cons_zero, List.set_cons_succ, i64_w, i32_w]
                        rfl
                      refine one_ (i := 3) (N := some 24) #[true, true, true, true, true, true, true, false, false, true, true, false, false, false] rfl rfl (one_of HT_.out (by kernel_rfl)) (by decide) (fun K hK => ?_)
                      refine goes_ Tryd.func19 (by kernel_rfl) rfl #[.int .u64 (IntKind.u64.wrap (a2_0)), .int .i64 2] (by first | rfl | exact wanted_on rfl rfl rfl (by first | rfl | (simp [*]; done) | (simp [*, IntKind.wrap_u32]; done))) rfl rfl (by (try simp only [List.map_toArray, List.map_cons, List.map_nil]); first | done | rfl | (simp only [List.length_drop, List.length_take]; rfl)) ?_
                      with_reducible refine (gangwayref01_Bytes.calls k (IntKind.u64.wrap (a2_0)) 2 t147 _ A6.out).mono ?_
                      rintro e w59 ⟨rfl, hb⟩
                      refine ⟨_, rfl, ?_⟩
                      have n0_ := Aside0.mk (blk_below (g := gb145) (o := .cells #[.int .i64 a2_0, .int .i64 a2_1, .bool true, .string a2_3] 26 (0, 0)) (by (with_reducible repeat (first | refine blk_drewN ?_ _ | refine blk_drew ?_ | refine blk_alloc ?_ _)); exact BK145.out) hb)
                      have n1_ := Aside0.mk (below_step (by repeat (first | (with_reducible first | exact HB.out | apply below_alloc | apply pw_below_drewN | apply below_drew1 | refine below_set ?_ GE145.out) | exact HB.out)) hb)
                      clear BK145
                      clear HB
                      have BK145 := n0_
                      have HB := n1_
                      clear n0_ n1_
                      (try clear hb)
                      (try clear hb2)
                      (try clear hk)
                      (try clear hi)
                      refine hK.out _ _ ⟨(blk_cell BK145.out 0).trans rfl, (blk_cell BK145.out 1).trans rfl, (blk_cell BK145.out 2).trans rfl, (blk_cell BK145.out 3).trans rfl⟩ (fun hHeld => ?_)
                      clear hK K
                      refine norm_ (a' := ?_) ?_ ?_
                      rotate_left
                      · show Act.put _ (some 24) _ = _
                        simp only [Act.put, List.setIfInBounds_toArray, List.set_cons_zero, List.set_cons_succ, i64_w, i32_w]
                        rfl
                      refine one_ (i := 7) (N := some 28) #[true, true, true, true, true, true, true, true, false, true, true, false, false, false] rfl rfl (one_of HT_.out (by kernel_rfl)) (by decide) (fun K hK => ?_)
                      refine goes_ Tryd.func19 (by kernel_rfl) rfl #[.int .u64 (IntKind.u64.wrap (a2_1)), .int .i64 2] (by first | rfl | exact wanted_on rfl rfl rfl (by first | rfl | (simp [*]; done) | (simp [*, IntKind.wrap_u32]; done))) rfl rfl (by (try simp only [List.map_toArray, List.map_cons, List.map_nil]); first | done | rfl | (simp only [List.length_drop, List.length_take]; rfl)) ?_
                      with_reducible refine (gangwayref01_Bytes.calls k (IntKind.u64.wrap (a2_1)) 2 t148 _ A7.out).mono ?_
                      rintro e w60 ⟨rfl, hb⟩
                      refine ⟨_, rfl, ?_⟩
                      have n0_ := Aside0.mk (blk_below (g := gb145) (o := .cells #[.int .i64 a2_0, .int .i64 a2_1, .bool true, .string a2_3] 26 (0, 0)) (by (with_reducible repeat (first | refine blk_drewN ?_ _ | refine blk_drew ?_ | refine blk_alloc ?_ _)); exact BK145.out) hb)
                      have n1_ := Aside0.mk (below_step (by repeat (first | (with_reducible first | exact HB.out | apply below_alloc | apply pw_below_drewN | apply below_drew1 | refine below_set ?_ GE145.out) | exact HB.out)) hb)
                      clear BK145
                      clear HB
                      have BK145 := n0_
                      have HB := n1_
                      clear n0_ n1_
                      (try clear hb)
                      (try clear hb2)
                      (try clear hk)
                      (try clear hi)
                      refine hK.out _ _ ⟨(blk_cell BK145.out 0).trans rfl, (blk_cell BK145.out 1).trans rfl, (blk_cell BK145.out 2).trans rfl, (blk_cell BK145.out 3).trans rfl⟩ (fun hHeld => ?_)
                      clear hK K
                      refine norm_ (a' := ?_) ?_ ?_
                      rotate_left
                      · show Act.put _ (some 28) _ = _
                        simp only [Act.put, List.setIfInBounds_toArray, List.set_cons_zero, List.set_cons_succ, i64_w, i32_w]
                        rfl
                      refine pure_ (i := 8) (N := some 29) (v := ?_) (a' := ?_) #[true, true, true, true, true, true, true, true, true, true, true, false, false, false] rfl rfl (any_of HT_.out (by kernel_rfl)) (fun _ _ _ h => h) (Or.inl ⟨by rfl, ?_⟩) ?_ ?_
                      rotate_left
                      · intro w'
                        go_simp
                        first | with_reducible rfl | (rw [if_neg (by have hz0_ : (⟨#[]⟩ : ByteArray).size = 0 := rfl; have hz1_ : (⟨#[0, 0]⟩ : ByteArray).size = 2 := rfl; (try simp only [decide_eq_true_eq, ByteArray.size_append, ByteArray.size_extract, eq_iff_iff, iff_true, iff_false, Nat.not_lt] at *); omega)]; try with_reducible rfl)
                      rotate_left
                      · simp only [Act.put, List.setIfInBounds_toArray, List.set_cons_zero, List.set_cons_succ, i64_w, i32_w]
                        rfl
                      refine one_ (i := 11) (N := some 32) #[true, true, true, true, true, true, true, true, true, true, true, true, false, false] rfl rfl (one_of HT_.out (by kernel_rfl)) (by decide) (fun K hK => ?_)
                      refine goes_ Tryd.func19 (by kernel_rfl) rfl #[.int .u64 (IntKind.u64.wrap (wrap64 ((a2_3.size : Int) + 8))), .int .i64 2] (by first | rfl | exact wanted_on rfl rfl rfl (by first | rfl | (simp [*]; done) | (simp [*, IntKind.wrap_u32]; done))) rfl rfl (by (try simp only [List.map_toArray, List.map_cons, List.map_nil]); first | done | rfl | (simp only [List.length_drop, List.length_take]; rfl)) ?_
                      with_reducible refine (gangwayref01_Bytes.calls k (IntKind.u64.wrap (wrap64 ((a2_3.size : Int) + 8))) 2 t149 _ A9.out).mono ?_
                      rintro e w61 ⟨rfl, hb⟩
                      refine ⟨_, rfl, ?_⟩
                      have n0_ := Aside0.mk (blk_below (g := gb145) (o := .cells #[.int .i64 a2_0, .int .i64 a2_1, .bool true, .string a2_3] 26 (0, 0)) (by (with_reducible repeat (first | refine blk_drewN ?_ _ | refine blk_drew ?_ | refine blk_alloc ?_ _)); exact BK145.out) hb)
                      have n1_ := Aside0.mk (below_step (by repeat (first | (with_reducible first | exact HB.out | apply below_alloc | apply pw_below_drewN | apply below_drew1 | refine below_set ?_ GE145.out) | exact HB.out)) hb)
                      clear BK145
                      clear HB
                      have BK145 := n0_
                      have HB := n1_
                      clear n0_ n1_
                      (try clear hb)
                      (try clear hb2)
                      (try clear hk)
                      (try clear hi)
                      refine hK.out _ _ ⟨(blk_cell BK145.out 0).trans rfl, (blk_cell BK145.out 1).trans rfl, (blk_cell BK145.out 2).trans rfl, (blk_cell BK145.out 3).trans rfl⟩ (fun hHeld => ?_)
                      clear hK K
                      refine norm_ (a' := ?_) ?_ ?_
                      rotate_left
                      · show Act.put _ (some 32) _ = _
                        simp only [Act.put, List.setIfInBounds_toArray, List.set_cons_zero, List.set_cons_succ, i64_w, i32_w]
                        rfl
                      refine pure_ (i := 12) (N := some 33) (v := ?_) (a' := ?_) #[true, true, true, true, true, true, true, true, true, true, true, true, true, false] rfl rfl (any_of HT_.out (by kernel_rfl)) (fun _ _ _ h => h) (Or.inl ⟨by rfl, ?_⟩) ?_ ?_
                      rotate_left
                      · intro w'
                        go_simp
                        first | with_reducible rfl | (rw [if_neg (by have hz0_ : (⟨#[]⟩ : ByteArray).size = 0 := rfl; have hz1_ : (⟨#[0, 0]⟩ : ByteArray).size = 2 := rfl; (try simp only [decide_eq_true_eq, ByteArray.size_append, ByteArray.size_extract, eq_iff_iff, iff_true, iff_false, Nat.not_lt] at *); omega)]; try with_reducible rfl)
                      rotate_left
                      · simp only [Act.put, List.setIfInBounds_toArray, List.set_cons_zero, List.set_cons_succ, i64_w, i32_w]
                        rfl
                      refine pure_ (i := 13) (N := some 10) (v := ?_) (a' := ?_) #[true, true, true, true, true, true, true, true, true, true, true, true, true, true] rfl rfl (any_of HT_.out (by kernel_rfl)) (fun _ _ _ h => h) (Or.inl ⟨by rfl, ?_⟩) ?_ ?_
                      rotate_left
                      · intro w'
                        go_simp
                        first | with_reducible rfl | (rw [if_neg (by have hz0_ : (⟨#[]⟩ : ByteArray).size = 0 := rfl; have hz1_ : (⟨#[0, 0]⟩ : ByteArray).size = 2 := rfl; (try simp only [decide_eq_true_eq, ByteArray.size_append, ByteArray.size_extract, eq_iff_iff, iff_true, iff_false, Nat.not_lt] at *); omega)]; try with_reducible rfl)
                      rotate_left
                      · simp only [Act.put, List.setIfInBounds_toArray, List.set_cons_zero, List.set_cons_succ, i64_w, i32_w]
                        rfl
                      refine done_ (done_of HT_.out (by kernel_rfl)) ?_
                      try go_wp2
                      have n0_ := Aside0.mk (blk_drew BK145.out)
                      have n1_ := Aside0.mk (below_drew1 HB.out)
                      clear BK145
                      clear HB
                      have BK145 := n0_
                      have HB := n1_
                      clear n0_ n1_
                      refine start_ (n := 12) (S := fun w' => w'.cell? ⟨gb145, 0, none⟩ = some (.int .i64 a2_0) ∧ w'.cell? ⟨gb145, 1, none⟩ = some (.int .i64 a2_1) ∧ w'.cell? ⟨gb145, 2, none⟩ = some (.bool true) ∧ w'.cell? ⟨gb145, 3, none⟩ = some (.string a2_3)) (ds := []) #[false, false, false, false, false, false, false, false, false, false, false, false] (by kernel_rfl) rfl rfl ⟨(blk_cell BK145.out 0).trans rfl, (blk_cell BK145.out 1).trans rfl, (blk_cell BK145.out 2).trans rfl, (blk_cell BK145.out 3).trans rfl⟩ (fun hHeld => ?_); refine with_tabW gangwayref07_Build.tab6 gangwayref07_Build.bits6 (fun HT_ HW_ => ?_)
                      generalize w61.drew = w62 at BK145 HB hHeld ⊢
                      refine pure_ (i := 0) (N := some 34) (v := ?_) (a' := ?_) #[true, false, false, false, false, false, false, false, false, false, false, false] rfl rfl (any_of HT_.out (by kernel_rfl)) (fun _ _ _ h => h) (Or.inl ⟨by rfl, ?_⟩) ?_ ?_
                      rotate_left
                      · intro w'
                        go_simp
                        first | with_reducible rfl | (rw [if_neg (by have hz0_ : (⟨#[]⟩ : ByteArray).size = 0 := rfl; have hz1_ : (⟨#[0, 0]⟩ : ByteArray).size = 2 := rfl; (try simp only [decide_eq_true_eq, ByteArray.size_append, ByteArray.size_extract, eq_iff_iff, iff_true, iff_false, Nat.not_lt] at *); omega)]; try with_reducible rfl)
                      rotate_left
                      · simp only [Act.put, List.setIfInBounds_toArray, List.set_cons_zero, List.set_cons_succ, i64_w, i32_w]
                        rfl
                      refine pure_ (i := 1) (N := some 35) (v := ?_) (a' := ?_) #[true, true, false, false, false, false, false, false, false, false, false, false] rfl rfl (any_of HT_.out (by kernel_rfl)) (fun _ _ _ h => h) (Or.inl ⟨by rfl, ?_⟩) ?_ ?_
                      rotate_left
                      · intro w'
                        go_simp
                        first | with_reducible rfl | (rw [if_neg (by have hz0_ : (⟨#[]⟩ : ByteArray).size = 0 := rfl; have hz1_ : (⟨#[0, 0]⟩ : ByteArray).size = 2 := rfl; (try simp only [decide_eq_true_eq, ByteArray.size_append, ByteArray.size_extract, eq_iff_iff, iff_true, iff_false, Nat.not_lt] at *); omega)]; try with_reducible rfl)
                      rotate_left
                      · simp only [Act.put, List.setIfInBounds_toArray, List.set_cons_zero, List.set_cons_succ, i64_w, i32_w]
                        rfl
                      refine pure_ (i := 2) (N := some 36) (v := ?_) (a' := ?_) #[true, true, true, false, false, false, false, false, false, false, false, false] rfl rfl (any_of HT_.out (by kernel_rfl)) (fun _ _ _ h => h) (Or.inl ⟨by rfl, ?_⟩) ?_ ?_
                      rotate_left
                      · intro w'
                        go_simp
                        first | with_reducible rfl | (rw [if_neg (by have hz0_ : (⟨#[]⟩ : ByteArray).size = 0 := rfl; have hz1_ : (⟨#[0, 0]⟩ : ByteArray).size = 2 := rfl; (try simp only [decide_eq_true_eq, ByteArray.size_append, ByteArray.size_extract, eq_iff_iff, iff_true, iff_false, Nat.not_lt] at *); omega)]; try with_reducible rfl)
                      rotate_left
                      · simp only [Act.put, List.setIfInBounds_toArray, List.set_cons_zero, List.set_cons_succ, i64_w, i32_w]
                        rfl
                      refine pure_ (i := 4) (N := some 38) (v := ?_) (a' := ?_) #[true, true, true, false, true, false, false, false, false, false, false, false] rfl rfl (any_of HT_.out (by kernel_rfl)) (fun _ _ _ h => h) (Or.inl ⟨by rfl, ?_⟩) ?_ ?_
                      rotate_left
                      · intro w'
                        go_simp
                        first | with_reducible rfl | (rw [if_neg (by have hz0_ : (⟨#[]⟩ : ByteArray).size = 0 := rfl; have hz1_ : (⟨#[0, 0]⟩ : ByteArray).size = 2 := rfl; (try simp only [decide_eq_true_eq, ByteArray.size_append, ByteArray.size_extract, eq_iff_iff, iff_true, iff_false, Nat.not_lt] at *); omega)]; try with_reducible rfl)
                      rotate_left
                      · simp only [Act.put, List.setIfInBounds_toArray, List.set_cons_zero, List.set_cons_succ, i64_w, i32_w]
                        rfl
                      refine pure_ (i := 7) (N := some 41) (v := ?_) (a' := ?_) #[true, true, true, false, true, false, false, true, false, false, false, false] rfl rfl (any_of HT_.out (by kernel_rfl)) (fun _ _ _ h => h) (Or.inl ⟨by rfl, ?_⟩) ?_ ?_
                      rotate_left
                      · intro w'
                        go_simp
                        first | with_reducible rfl | (rw [if_neg (by have hz0_ : (⟨#[]⟩ : ByteArray).size = 0 := rfl; have hz1_ : (⟨#[0, 0]⟩ : ByteArray).size = 2 := rfl; (try simp only [decide_eq_true_eq, ByteArray.size_append, ByteArray.size_extract, eq_iff_iff, iff_true, iff_false, Nat.not_lt] at *); omega)]; try with_reducible rfl)
                      rotate_left
                      · simp only [Act.put, List.setIfInBounds_toArray, List.set_cons_zero, List.set_cons_succ, i64_w, i32_w]
                        rfl
                      refine take_ (i := 8) (N := some 42) (v := ?_) (a' := ?_) #[true, true, true, false, true, false, false, true, true, false, false, false] rfl rfl (take_ofW HT_.out HW_.out (by kernel_rfl)) (fun _ _ _ h => h) (Or.inl ⟨by rfl, ?_⟩) hHeld ?_ ?_
                      rotate_left
                      · rintro w' ⟨s0, s1, s2, s3⟩
                        go_simp
                        with_reducible rfl
                      rotate_left
                      · simp only [Act.put, List.setIfInBounds_toArray, List.set_cons_zero, List.set_cons_succ, i64_w, i32_w]
                        rfl
                      refine one_ (i := 3) (N := some 37) #[true, true, true, true, true, false, false, true, true, false, false, false] rfl rfl (one_of HT_.out (by kernel_rfl)) (by decide) (fun K hK => ?_)
                      refine goes_ Tryd.func21 (by kernel_rfl) rfl #[.int .u32 a0, .int .u32 a1, .int .i64 17, .int .i64 (wrap64 ((a2_3.size : Int) + 8))] (by first | rfl | exact wanted_on rfl rfl rfl (by first | rfl | (simp [*]; done) | (simp [*, IntKind.wrap_u32]; done))) rfl rfl (by (try simp only [List.map_toArray, List.map_cons, List.map_nil]); first | done | rfl | (simp only [List.length_drop, List.length_take]; rfl)) ?_
                      with_reducible refine (gangwayref03_Head.calls k a0 a1 17 (wrap64 ((a2_3.size : Int) + 8)) t150 _ A11.out).mono ?_
                      rintro e w63 ⟨rfl, hb⟩
                      refine ⟨_, rfl, ?_⟩
                      have n0_ := Aside0.mk (blk_below (g := gb145) (o := .cells #[.int .i64 a2_0, .int .i64 a2_1, .bool true, .string a2_3] 26 (0, 0)) (by (with_reducible repeat (first | refine blk_drewN ?_ _ | refine blk_drew ?_ | refine blk_alloc ?_ _)); exact BK145.out) hb)
                      have n1_ := Aside0.mk (below_step (by repeat (first | (with_reducible first | exact HB.out | apply below_alloc | apply pw_below_drewN | apply below_drew1 | refine below_set ?_ GE145.out) | exact HB.out)) hb)
                      clear BK145
                      clear HB
                      have BK145 := n0_
                      have HB := n1_
                      clear n0_ n1_
                      (try clear hb)
                      (try clear hb2)
                      (try clear hk)
                      (try clear hi)
                      refine hK.out _ _ ⟨(blk_cell BK145.out 0).trans rfl, (blk_cell BK145.out 1).trans rfl, (blk_cell BK145.out 2).trans rfl, (blk_cell BK145.out 3).trans rfl⟩ (fun hHeld => ?_)
                      clear hK K
                      refine norm_ (a' := ?_) ?_ ?_
                      rotate_left
                      · show Act.put _ (some 37) _ = _
                        simp only [Act.put, List.setIfInBounds_toArray, List.set_cons_zero, List.set_cons_succ, i64_w, i32_w]
                        rfl
                      refine pure_ (i := 5) (N := some 39) (v := ?_) (a' := ?_) #[true, true, true, true, true, true, false, true, true, false, false, false] rfl rfl (any_of HT_.out (by kernel_rfl)) (fun _ _ _ h => h) (Or.inl ⟨by rfl, ?_⟩) ?_ ?_
                      rotate_left
                      · intro w'
                        go_simp
                        first | with_reducible rfl | (rw [if_neg (by have hz0_ : (⟨#[]⟩ : ByteArray).size = 0 := rfl; have hz1_ : (⟨#[0, 0]⟩ : ByteArray).size = 2 := rfl; (try simp only [decide_eq_true_eq, ByteArray.size_append, ByteArray.size_extract, eq_iff_iff, iff_true, iff_false, Nat.not_lt] at *); omega)]; try with_reducible rfl)
                      rotate_left
                      · simp only [Act.put, List.setIfInBounds_toArray, List.set_cons_zero, List.set_cons_succ, i64_w, i32_w]
                        rfl
                      refine pure_ (i := 6) (N := some 40) (v := ?_) (a' := ?_) #[true, true, true, true, true, true, true, true, true, false, false, false] rfl rfl (any_of HT_.out (by kernel_rfl)) (fun _ _ _ h => h) (Or.inl ⟨by rfl, ?_⟩) ?_ ?_
                      rotate_left
                      · intro w'
                        go_simp
                        first | with_reducible rfl | (rw [if_neg (by have hz0_ : (⟨#[]⟩ : ByteArray).size = 0 := rfl; have hz1_ : (⟨#[0, 0]⟩ : ByteArray).size = 2 := rfl; (try simp only [decide_eq_true_eq, ByteArray.size_append, ByteArray.size_extract, eq_iff_iff, iff_true, iff_false, Nat.not_lt] at *); omega)]; try with_reducible rfl)
                      rotate_left
                      · simp only [Act.put, List.setIfInBounds_toArray, List.set_cons_zero, List.set_cons_succ, i64_w, i32_w]
                        rfl
                      refine pure_ (i := 9) (N := some 43) (v := ?_) (a' := ?_) #[true, true, true, true, true, true, true, true, true, true, false, false] rfl rfl (any_of HT_.out (by kernel_rfl)) (fun _ _ _ h => h) (Or.inl ⟨by rfl, ?_⟩) ?_ ?_
                      rotate_left
                      · intro w'
                        go_simp
                        first | with_reducible rfl | (rw [if_neg (by have hz0_ : (⟨#[]⟩ : ByteArray).size = 0 := rfl; have hz1_ : (⟨#[0, 0]⟩ : ByteArray).size = 2 := rfl; (try simp only [decide_eq_true_eq, ByteArray.size_append, ByteArray.size_extract, eq_iff_iff, iff_true, iff_false, Nat.not_lt] at *); omega)]; try with_reducible rfl)
                      rotate_left
                      · simp only [Act.put, List.setIfInBounds_toArray, List.set_cons_zero, List.set_cons_succ, i64_w, i32_w]
                        rfl
                      refine one_ (i := 10) (N := some 44) #[true, true, true, true, true, true, true, true, true, true, true, false] rfl rfl (one_of HT_.out (by kernel_rfl)) (by decide) (fun K hK => ?_)
                      refine goes_ Tryd.func20 (by kernel_rfl) rfl #[.string (((t150 ++ ((t147 ++ t148) ++ t149)) ++ (⟨#[0, 0]⟩ : ByteArray)) ++ a2_3)] (by first | rfl | exact wanted_on rfl rfl rfl (by first | rfl | (simp [*]; done) | (simp [*, IntKind.wrap_u32]; done))) rfl rfl (by (try simp only [List.map_toArray, List.map_cons, List.map_nil]); first | done | rfl | (simp only [List.length_drop, List.length_take]; rfl)) ?_
                      with_reducible refine (gangwayref03_Of.calls k (((t150 ++ ((t147 ++ t148) ++ t149)) ++ (⟨#[0, 0]⟩ : ByteArray)) ++ a2_3) t151 _ A15.out).mono ?_
                      rintro e w' ⟨rfl, ⟨nd, rfl⟩⟩
                      refine ⟨_, rfl, ?_⟩
                      refine hK.out _ _ ⟨(blk_cell BK145.out 0).trans rfl, (blk_cell BK145.out 1).trans rfl, (blk_cell BK145.out 2).trans rfl, (blk_cell BK145.out 3).trans rfl⟩ (fun hHeld => ?_)
                      clear hK K
                      refine norm_ (a' := ?_) ?_ ?_
                      rotate_left
                      · show Act.put _ (some 44) _ = _
                        simp only [Act.put, List.setIfInBounds_toArray, List.set_cons_zero, List.set_cons_succ, i64_w, i32_w]
                        rfl
                      refine pure_ (i := 11) (N := some 11) (v := ?_) (a' := ?_) #[true, true, true, true, true, true, true, true, true, true, true, true] rfl rfl (any_of HT_.out (by kernel_rfl)) (fun _ _ _ h => h) (Or.inl ⟨by rfl, ?_⟩) ?_ ?_
                      rotate_left
                      · intro w'
                        go_simp
                        first | with_reducible rfl | (rw [if_neg (by have hz0_ : (⟨#[]⟩ : ByteArray).size = 0 := rfl; have hz1_ : (⟨#[0, 0]⟩ : ByteArray).size = 2 := rfl; (try simp only [decide_eq_true_eq, ByteArray.size_append, ByteArray.size_extract, eq_iff_iff, iff_true, iff_false, Nat.not_lt] at *); omega)]; try with_reducible rfl)
                      rotate_left
                      · simp only [Act.put, List.setIfInBounds_toArray, List.set_cons_zero, List.set_cons_succ, i64_w, i32_w]
                        rfl
                      refine done_ (done_of HT_.out (by kernel_rfl)) ?_
                      have hcz64_0 : w63.cell? ⟨gb145, 0, none⟩ = some (.int .i64 a2_0) := (blk_cell BK145.out 0).trans rfl
                      have hcz64_1 : w63.cell? ⟨gb145, 1, none⟩ = some (.int .i64 a2_1) := (blk_cell BK145.out 1).trans rfl
                      have hcz64_2 : w63.cell? ⟨gb145, 2, none⟩ = some (.bool true) := (blk_cell BK145.out 2).trans rfl
                      have hcz64_3 : w63.cell? ⟨gb145, 3, none⟩ = some (.string a2_3) := (blk_cell BK145.out 3).trans rfl
                      have hfz64_0 := blk_frozen BK145.out 0
                      have hfz64_1 := blk_frozen BK145.out 1
                      have hfz64_2 := blk_frozen BK145.out 2
                      have hfz64_3 := blk_frozen BK145.out 3
                      try go_wp2
                      (try (rw [drewN_self w63]; generalize hq_ : World.drewN w63 _ = w63; have n0_ : Aside0 (w63.heap[gb145]? = some (.cells #[.int .i64 a2_0, .int .i64 a2_1, .bool true, .string a2_3] 26 (0, 0))) := ⟨by rw [← hq_]; exact (by (with_reducible repeat (first | refine blk_drewN ?_ _ | refine blk_drew ?_ | refine blk_alloc ?_ _)); exact BK145.out)⟩; have n1_ : Aside0 (Below w.heap.size w w63) := ⟨by rw [← hq_]; exact (by repeat (first | (with_reducible first | exact HB.out | apply below_alloc | apply pw_below_drewN | apply below_drew1 | refine below_set ?_ GE145.out) | exact HB.out))⟩; clear BK145 HB hq_; have BK145 := n0_; have HB := n1_; clear n0_ n1_))
                      have n0_ := Aside0.mk (blk_drew BK145.out)
                      have n1_ := Aside0.mk (below_drew1 HB.out)
                      clear BK145
                      clear HB
                      have BK145 := n0_
                      have HB := n1_
                      clear n0_ n1_
                      refine start_ (n := 10) (S := fun w' => w'.cell? ⟨gb145, 0, none⟩ = some (.int .i64 a2_0) ∧ w'.cell? ⟨gb145, 1, none⟩ = some (.int .i64 a2_1) ∧ w'.cell? ⟨gb145, 2, none⟩ = some (.bool true) ∧ w'.cell? ⟨gb145, 3, none⟩ = some (.string a2_3)) (ds := []) #[false, false, false, false, false, false, false, false, false, false] (by kernel_rfl) rfl rfl ⟨(blk_cell BK145.out 0).trans rfl, (blk_cell BK145.out 1).trans rfl, (blk_cell BK145.out 2).trans rfl, (blk_cell BK145.out 3).trans rfl⟩ (fun hHeld => ?_); refine with_tabW gangwayref07_Build.tab11 gangwayref07_Build.bits11 (fun HT_ HW_ => ?_)
                      generalize w63.drew = w65 at BK145 HB hHeld ⊢
                      refine pure_ (i := 0) (N := some 49) (v := ?_) (a' := ?_) #[true, false, false, false, false, false, false, false, false, false] rfl rfl (any_of HT_.out (by kernel_rfl)) (fun _ _ _ h => h) (Or.inl ⟨by rfl, ?_⟩) ?_ ?_
                      rotate_left
                      · intro w'
                        go_simp
                        first | with_reducible rfl | (rw [if_neg (by have hz0_ : (⟨#[]⟩ : ByteArray).size = 0 := rfl; have hz1_ : (⟨#[0, 0]⟩ : ByteArray).size = 2 := rfl; (try simp only [decide_eq_true_eq, ByteArray.size_append, ByteArray.size_extract, eq_iff_iff, iff_true, iff_false, Nat.not_lt] at *); omega)]; try with_reducible rfl)
                      rotate_left
                      · simp only [Act.put, List.setIfInBounds_toArray, List.set_cons_zero, List.set_cons_succ, i64_w, i32_w]
                        rfl
                      refine pure_ (i := 1) (N := some 50) (v := ?_) (a' := ?_) #[true, true, false, false, false, false, false, false, false, false] rfl rfl (any_of HT_.out (by kernel_rfl)) (fun _ _ _ h => h) (Or.inl ⟨by rfl, ?_⟩) ?_ ?_
                      rotate_left
                      · intro w'
                        go_simp
                        first | with_reducible rfl | (rw [if_neg (by have hz0_ : (⟨#[]⟩ : ByteArray).size = 0 := rfl; have hz1_ : (⟨#[0, 0]⟩ : ByteArray).size = 2 := rfl; (try simp only [decide_eq_true_eq, ByteArray.size_append, ByteArray.size_extract, eq_iff_iff, iff_true, iff_false, Nat.not_lt] at *); omega)]; try with_reducible rfl)
                      rotate_left
                      · simp only [Act.put, List.setIfInBounds_toArray, List.set_cons_zero, List.set_cons_succ, i64_w, i32_w]
                        rfl
                      refine pure_ (i := 2) (N := some 51) (v := ?_) (a' := ?_) #[true, true, true, false, false, false, false, false, false, false] rfl rfl (any_of HT_.out (by kernel_rfl)) (fun _ _ _ h => h) (Or.inl ⟨by rfl, ?_⟩) ?_ ?_
                      rotate_left
                      · intro w'
                        go_simp
                        first | with_reducible rfl | (rw [if_neg (by have hz0_ : (⟨#[]⟩ : ByteArray).size = 0 := rfl; have hz1_ : (⟨#[0, 0]⟩ : ByteArray).size = 2 := rfl; (try simp only [decide_eq_true_eq, ByteArray.size_append, ByteArray.size_extract, eq_iff_iff, iff_true, iff_false, Nat.not_lt] at *); omega)]; try with_reducible rfl)
                      rotate_left
                      · simp only [Act.put, List.setIfInBounds_toArray, List.set_cons_zero, List.set_cons_succ, i64_w, i32_w]
                        rfl
                      refine pure_ (i := 5) (N := some 54) (v := ?_) (a' := ?_) #[true, true, true, false, false, true, false, false, false, false] rfl rfl (any_of HT_.out (by kernel_rfl)) (fun _ _ _ h => h) (Or.inl ⟨by rfl, ?_⟩) ?_ ?_
                      rotate_left
                      · intro w'
                        go_simp
                        first | with_reducible rfl | (rw [if_neg (by have hz0_ : (⟨#[]⟩ : ByteArray).size = 0 := rfl; have hz1_ : (⟨#[0, 0]⟩ : ByteArray).size = 2 := rfl; (try simp only [decide_eq_true_eq, ByteArray.size_append, ByteArray.size_extract, eq_iff_iff, iff_true, iff_false, Nat.not_lt] at *); omega)]; try with_reducible rfl)
                      rotate_left
                      · simp only [Act.put, List.setIfInBounds_toArray, List.set_cons_zero, List.set_cons_succ, i64_w, i32_w]
                        rfl
                      refine take_ (i := 6) (N := some 55) (v := ?_) (a' := ?_) #[true, true, true, false, false, true, true, false, false, false] rfl rfl (take_ofW HT_.out HW_.out (by kernel_rfl)) (fun _ _ _ h => h) (Or.inl ⟨by rfl, ?_⟩) hHeld ?_ ?_
                      rotate_left
                      · rintro w' ⟨s0, s1, s2, s3⟩
                        go_simp
                        with_reducible rfl
                      rotate_left
                      · simp only [Act.put, List.setIfInBounds_toArray, List.set_cons_zero, List.set_cons_succ, i64_w, i32_w]
                        rfl
                      refine one_ (i := 3) (N := some 52) #[true, true, true, true, false, true, true, false, false, false] rfl rfl (one_of HT_.out (by kernel_rfl)) (by decide) (fun K hK => ?_)
                      refine goes_ Tryd.func19 (by kernel_rfl) rfl #[.int .u64 0, .int .i64 2] (by first | rfl | exact wanted_on rfl rfl rfl (by first | rfl | (simp [*]; done) | (simp [*, IntKind.wrap_u32]; done))) rfl rfl (by (try simp only [List.map_toArray, List.map_cons, List.map_nil]); first | done | rfl | (simp only [List.length_drop, List.length_take]; rfl)) ?_
                      with_reducible refine (gangwayref01_Bytes.calls k 0 2 t154 _ A51.out).mono ?_
                      rintro e w66 ⟨rfl, hb⟩
                      refine ⟨_, rfl, ?_⟩
                      have n0_ := Aside0.mk (blk_below (g := gb145) (o := .cells #[.int .i64 a2_0, .int .i64 a2_1, .bool true, .string a2_3] 26 (0, 0)) (by (with_reducible repeat (first | refine blk_drewN ?_ _ | refine blk_drew ?_ | refine blk_alloc ?_ _)); exact BK145.out) hb)
                      have n1_ := Aside0.mk (below_step (by repeat (first | (with_reducible first | exact HB.out | apply below_alloc | apply pw_below_drewN | apply below_drew1 | refine below_set ?_ GE145.out) | exact HB.out)) hb)
                      clear BK145
                      clear HB
                      have BK145 := n0_
                      have HB := n1_
                      clear n0_ n1_
                      (try clear hb)
                      (try clear hb2)
                      (try clear hk)
                      (try clear hi)
                      refine hK.out _ _ ⟨(blk_cell BK145.out 0).trans rfl, (blk_cell BK145.out 1).trans rfl, (blk_cell BK145.out 2).trans rfl, (blk_cell BK145.out 3).trans rfl⟩ (fun hHeld => ?_)
                      clear hK K
                      refine norm_ (a' := ?_) ?_ ?_
                      rotate_left
                      · show Act.put _ (some 52) _ = _
                        simp only [Act.put, List.setIfInBounds_toArray, List.set_cons_zero, List.set_cons_succ, i64_w, i32_w]
                        rfl
                      refine pure_ (i := 4) (N := some 53) (v := ?_) (a' := ?_) #[true, true, true, true, true, true, true, false, false, false] rfl rfl (any_of HT_.out (by kernel_rfl)) (fun _ _ _ h => h) (Or.inl ⟨by rfl, ?_⟩) ?_ ?_
                      rotate_left
                      · intro w'
                        go_simp
                        first | with_reducible rfl | (rw [if_neg (by have hz0_ : (⟨#[]⟩ : ByteArray).size = 0 := rfl; have hz1_ : (⟨#[0, 0]⟩ : ByteArray).size = 2 := rfl; (try simp only [decide_eq_true_eq, ByteArray.size_append, ByteArray.size_extract, eq_iff_iff, iff_true, iff_false, Nat.not_lt] at *); omega)]; try with_reducible rfl)
                      rotate_left
                      · simp only [Act.put, List.setIfInBounds_toArray, List.set_cons_zero, List.set_cons_succ, i64_w, i32_w]
                        rfl
                      refine pure_ (i := 7) (N := some 56) (v := ?_) (a' := ?_) #[true, true, true, true, true, true, true, true, false, false] rfl rfl (any_of HT_.out (by kernel_rfl)) (fun _ _ _ h => h) (Or.inl ⟨by rfl, ?_⟩) ?_ ?_
                      rotate_left
                      · intro w'
                        go_simp
                        first | with_reducible rfl | (rw [if_neg (by have hz0_ : (⟨#[]⟩ : ByteArray).size = 0 := rfl; have hz1_ : (⟨#[0, 0]⟩ : ByteArray).size = 2 := rfl; (try simp only [decide_eq_true_eq, ByteArray.size_append, ByteArray.size_extract, eq_iff_iff, iff_true, iff_false, Nat.not_lt] at *); omega)]; try with_reducible rfl)
                      rotate_left
                      · simp only [Act.put, List.setIfInBounds_toArray, List.set_cons_zero, List.set_cons_succ, i64_w, i32_w]
                        rfl
                      refine pure_ (i := 8) (N := some 6) (v := ?_) (a' := ?_) #[true, true, true, true, true, true, true, true, true, false] rfl rfl (any_of HT_.out (by kernel_rfl)) (fun _ _ _ h => h) (Or.inl ⟨by rfl, ?_⟩) ?_ ?_
                      rotate_left
                      · intro w'
                        go_simp
                        first | with_reducible rfl | (rw [if_neg (by have hz0_ : (⟨#[]⟩ : ByteArray).size = 0 := rfl; have hz1_ : (⟨#[0, 0]⟩ : ByteArray).size = 2 := rfl; (try simp only [decide_eq_true_eq, ByteArray.size_append, ByteArray.size_extract, eq_iff_iff, iff_true, iff_false, Nat.not_lt] at *); omega)]; try with_reducible rfl)
                      rotate_left
                      · simp only [Act.put, List.setIfInBounds_toArray, List.set_cons_zero, List.set_cons_succ, i64_w, i32_w]
                        rfl
                      refine pure_ (i := 9) (N := some 7) (v := ?_) (a' := ?_) #[true, true, true, true, true, true, true, true, true, true] rfl rfl (any_of HT_.out (by kernel_rfl)) (fun _ _ _ h => h) (Or.inl ⟨by rfl, ?_⟩) ?_ ?_
                      rotate_left
                      · intro w'
                        go_simp
                        first | with_reducible rfl | (rw [if_neg (by have hz0_ : (⟨#[]⟩ : ByteArray).size = 0 := rfl; have hz1_ : (⟨#[0, 0]⟩ : ByteArray).size = 2 := rfl; (try simp only [decide_eq_true_eq, ByteArray.size_append, ByteArray.size_extract, eq_iff_iff, iff_true, iff_false, Nat.not_lt] at *); omega)]; try with_reducible rfl)
                      rotate_left
                      · simp only [Act.put, List.setIfInBounds_toArray, List.set_cons_zero, List.set_cons_succ, i64_w, i32_w]
                        rfl
                      refine done_ (done_of HT_.out (by kernel_rfl)) ?_
                      try go_wp2
                      go_ret2
                      exact ⟨by first | rfl | (simp [errW_none, errW_some] <;> rfl) | (simp [*, errW_none, errW_some] <;> rfl) | (simp [*, IntKind.wrap_u32]; done) | (simp_all [IntKind.wrap_u32]; done), by repeat (first | (with_reducible first | exact HB.out | apply below_alloc | apply pw_below_drewN | apply below_drew1 | refine below_set ?_ GE145.out) | exact HB.out)⟩
                    · rw [if_neg c53] at H
                      exact absurd H (by simp)
                  · rw [if_neg c52] at H
                    exact absurd H (by simp)
                · replace c50 := Bool.eq_false_iff.mpr c50
                  subst c50
                  have H1 : ((gangwayref01_Bytes.f k (IntKind.u64.wrap (t151)) 2).bind fun t155 => (if ((t147 ++ t148) ++ t149).size + t155.size ≤ 9223372036854775807 then (if (((t147 ++ t148) ++ t149) ++ t155).size + a2_3.size ≤ 9223372036854775807 then (some ((((t147 ++ t148) ++ t149) ++ t155) ++ a2_3, 0)) else (none)) else (none))) = some (r1, r2) := by rw [if_neg (show ¬ (false = true) by decide)] at H; exact H
                  clear H
                  have H := H1
                  clear H1
                  replace H := Option.bind_eq_some_iff.mp H
                  obtain ⟨t155, A670, H⟩ := H
                  replace H : (if ((t147 ++ t148) ++ t149).size + t155.size ≤ 9223372036854775807 then (if (((t147 ++ t148) ++ t149) ++ t155).size + a2_3.size ≤ 9223372036854775807 then (some ((((t147 ++ t148) ++ t149) ++ t155) ++ a2_3, 0)) else (none)) else (none)) = some (r1, r2) := H
                  have A67 := Aside0.mk A670
                  clear A670
                  by_cases c68 : ((t147 ++ t148) ++ t149).size + t155.size ≤ 9223372036854775807
                  · rw [if_pos c68] at H
                    have c68b0 := eq_true c68
                    have c68b1 : decide (((t147 ++ t148) ++ t149).size + t155.size ≤ 9223372036854775807) = true := decide_eq_true c68
                    have c68z := c68
                    simp only [ByteArray.size_append] at c68z
                    have c68z1 := eq_true c68z
                    have c68z2 := eq_false (Nat.not_lt.2 c68z)
                    try have c68b2 : (9223372036854775807 < ((t147 ++ t148) ++ t149).size + t155.size) = False := eq_false (Nat.not_lt.2 c68)
                    by_cases c69 : (((t147 ++ t148) ++ t149) ++ t155).size + a2_3.size ≤ 9223372036854775807
                    · rw [if_pos c69] at H
                      have c69b0 := eq_true c69
                      have c69b1 : decide ((((t147 ++ t148) ++ t149) ++ t155).size + a2_3.size ≤ 9223372036854775807) = true := decide_eq_true c69
                      have c69z := c69
                      simp only [ByteArray.size_append] at c69z
                      have c69z1 := eq_true c69z
                      have c69z2 := eq_false (Nat.not_lt.2 c69z)
                      try have c69b2 : (9223372036854775807 < (((t147 ++ t148) ++ t149) ++ t155).size + a2_3.size) = False := eq_false (Nat.not_lt.2 c69)
                      simp only [Option.some.injEq, Prod.mk.injEq] at H
                      obtain ⟨rfl, rfl⟩ := H
                      go_enter Tryd.func10, Tryd.ntmps10
                      try go_wp2_with (first | ((with_reducible refine gate_dst (N := 5) rfl ?_); refine box_event ?hg (N := 5) ?hd (cs := #[.int .i64 a2_0, .int .i64 a2_1, .bool false, .string a2_3]) (t := 26) ?hr ?_; (case hd => rfl); (case hg => rfl); (case hr => first | (go_simp; done) | (go_simp; rfl)); intro gb145 hg w70 hbox hb; have n0_ := Aside0.mk (below_step (by repeat (first | (with_reducible first | exact HB.out | apply below_alloc | apply pw_below_drewN | apply below_drew1) | exact HB.out)) hb); have n1_ := Aside0.mk (hbox); have n2_ := Aside0.mk ((by rw [hg]; exact (below_size (by repeat (first | (with_reducible first | exact HB.out | apply below_alloc | apply pw_below_drewN | apply below_drew1) | exact HB.out))) : w.heap.size ≤ gb145)); have n3_ := Aside0.mk ((by rw [hg]; exact (below_size (by repeat (first | (with_reducible first | exact HB.out | apply below_alloc | apply pw_below_drewN | apply below_drew1) | exact HB.out))) : w.heap.size ≤ gb145)); clear HB; have HB := n0_; have BK145 := n1_; have GW145 := n2_; have GE145 := n3_; clear n0_ n1_ n2_ n3_; clear hb hbox hg; have hcz71_0 : w70.cell? ⟨gb145, 0, none⟩ = some (.int .i64 a2_0) := (blk_cell BK145.out 0).trans rfl; have hcz71_1 : w70.cell? ⟨gb145, 1, none⟩ = some (.int .i64 a2_1) := (blk_cell BK145.out 1).trans rfl; have hcz71_2 : w70.cell? ⟨gb145, 2, none⟩ = some (.bool false) := (blk_cell BK145.out 2).trans rfl; have hcz71_3 : w70.cell? ⟨gb145, 3, none⟩ = some (.string a2_3) := (blk_cell BK145.out 3).trans rfl; have hfz71_0 := blk_frozen BK145.out 0; have hfz71_1 := blk_frozen BK145.out 1; have hfz71_2 := blk_frozen BK145.out 2; have hfz71_3 := blk_frozen BK145.out 3) | ((with_reducible refine gate_callee (f := 13) rfl ?_); refine goesL_ (some 13) rfl rfl Tryd.func13 (by kernel_rfl) rfl #[.agg #[.int .i64 a2_0, .int .i64 a2_1, .bool false, .string a2_3]] rfl (by (try simp only [List.map_toArray, List.map_cons, List.map_nil]); first | done | rfl | (simp only [List.length_drop, List.length_take]; rfl)) ?_; (with_reducible refine (gangwayref07_Check.calls a2_0 a2_1 false a2_3 t146 _ A4.out).mono ?_); rintro e w72 ⟨rfl, hb⟩; refine ⟨_, rfl, ?_⟩; have n0_ := Aside0.mk (blk_below (g := gb145) (o := .cells #[.int .i64 a2_0, .int .i64 a2_1, .bool false, .string a2_3] 26 (0, 0)) (by (with_reducible repeat (first | refine blk_drewN ?_ _ | refine blk_drew ?_ | refine blk_alloc ?_ _)); exact BK145.out) hb); have n1_ := Aside0.mk (below_step (by repeat (first | (with_reducible first | exact HB.out | apply below_alloc | apply pw_below_drewN | apply below_drew1 | refine below_set ?_ GE145.out) | exact HB.out)) hb); clear BK145; clear HB; have BK145 := n0_; have HB := n1_; clear n0_ n1_; have hcy1_145_0 := (show World.cell? _ ⟨gb145, 0, none⟩ = some (.int .i64 a2_0) from (blk_cell BK145.out 0).trans rfl); have hcy1_145_1 := (show World.cell? _ ⟨gb145, 1, none⟩ = some (.int .i64 a2_1) from (blk_cell BK145.out 1).trans rfl); have hcy1_145_2 := (show World.cell? _ ⟨gb145, 2, none⟩ = some (.bool false) from (blk_cell BK145.out 2).trans rfl); have hcy1_145_3 := (show World.cell? _ ⟨gb145, 3, none⟩ = some (.string a2_3) from (blk_cell BK145.out 3).trans rfl); (try clear hb); (try clear hb2); (try clear hk); (try clear hi); have hcz73_0 : w72.cell? ⟨gb145, 0, none⟩ = some (.int .i64 a2_0) := (blk_cell BK145.out 0).trans rfl; have hcz73_1 : w72.cell? ⟨gb145, 1, none⟩ = some (.int .i64 a2_1) := (blk_cell BK145.out 1).trans rfl; have hcz73_2 : w72.cell? ⟨gb145, 2, none⟩ = some (.bool false) := (blk_cell BK145.out 2).trans rfl; have hcz73_3 : w72.cell? ⟨gb145, 3, none⟩ = some (.string a2_3) := (blk_cell BK145.out 3).trans rfl; have hfz73_0 := blk_frozen BK145.out 0; have hfz73_1 := blk_frozen BK145.out 1; have hfz73_2 := blk_frozen BK145.out 2; have hfz73_3 := blk_frozen BK145.out 3))
                      have n0_ := Aside0.mk (blk_drew BK145.out)
                      have n1_ := Aside0.mk (below_drew1 HB.out)
                      clear BK145
                      clear HB
                      have BK145 := n0_
                      have HB := n1_
                      clear n0_ n1_
                      refine start_ (n := 14) (S := fun w' => w'.cell? ⟨gb145, 0, none⟩ = some (.int .i64 a2_0) ∧ w'.cell? ⟨gb145, 1, none⟩ = some (.int .i64 a2_1) ∧ w'.cell? ⟨gb145, 2, none⟩ = some (.bool false) ∧ w'.cell? ⟨gb145, 3, none⟩ = some (.string a2_3)) (ds := []) #[false, false, false, false, false, false, false, false, false, false, false, false, false, false] (by kernel_rfl) rfl rfl ⟨(blk_cell BK145.out 0).trans rfl, (blk_cell BK145.out 1).trans rfl, (blk_cell BK145.out 2).trans rfl, (blk_cell BK145.out 3).trans rfl⟩ (fun hHeld => ?_); refine with_tabW gangwayref07_Build.tab5 gangwayref07_Build.bits5 (fun HT_ HW_ => ?_)
                      generalize w72.drew = w74 at BK145 HB hHeld ⊢
                      refine pure_ (i := 0) (N := some 21) (v := ?_) (a' := ?_) #[true, false, false, false, false, false, false, false, false, false, false, false, false, false] rfl rfl (any_of HT_.out (by kernel_rfl)) (fun _ _ _ h => h) (Or.inl ⟨by rfl, ?_⟩) ?_ ?_
                      rotate_left
                      · intro w'
                        go_simp
                        first | with_reducible rfl | (rw [if_neg (by have hz0_ : (⟨#[]⟩ : ByteArray).size = 0 := rfl; have hz1_ : (⟨#[0, 0]⟩ : ByteArray).size = 2 := rfl; (try simp only [decide_eq_true_eq, ByteArray.size_append, ByteArray.size_extract, eq_iff_iff, iff_true, iff_false, Nat.not_lt] at *); omega)]; try with_reducible rfl)
                      rotate_left
                      · simp only [Act.put, List.setIfInBounds_toArray, List.set_cons_zero, List.set_cons_succ, i64_w, i32_w]
                        rfl
                      refine pure_ (i := 4) (N := some 25) (v := ?_) (a' := ?_) #[true, false, false, false, true, false, false, false, false, false, false, false, false, false] rfl rfl (any_of HT_.out (by kernel_rfl)) (fun _ _ _ h => h) (Or.inl ⟨by rfl, ?_⟩) ?_ ?_
                      rotate_left
                      · intro w'
                        go_simp
                        first | with_reducible rfl | (rw [if_neg (by have hz0_ : (⟨#[]⟩ : ByteArray).size = 0 := rfl; have hz1_ : (⟨#[0, 0]⟩ : ByteArray).size = 2 := rfl; (try simp only [decide_eq_true_eq, ByteArray.size_append, ByteArray.size_extract, eq_iff_iff, iff_true, iff_false, Nat.not_lt] at *); omega)]; try with_reducible rfl)
                      rotate_left
                      · simp only [Act.put, List.setIfInBounds_toArray, List.set_cons_zero, List.set_cons_succ, i64_w, i32_w]
                        rfl
                      refine pure_ (i := 9) (N := some 30) (v := ?_) (a' := ?_) #[true, false, false, false, true, false, false, false, false, true, false, false, false, false] rfl rfl (any_of HT_.out (by kernel_rfl)) (fun _ _ _ h => h) (Or.inl ⟨by rfl, ?_⟩) ?_ ?_
                      rotate_left
                      · intro w'
                        go_simp
                        first | with_reducible rfl | (rw [if_neg (by have hz0_ : (⟨#[]⟩ : ByteArray).size = 0 := rfl; have hz1_ : (⟨#[0, 0]⟩ : ByteArray).size = 2 := rfl; (try simp only [decide_eq_true_eq, ByteArray.size_append, ByteArray.size_extract, eq_iff_iff, iff_true, iff_false, Nat.not_lt] at *); omega)]; try with_reducible rfl)
                      rotate_left
                      · simp only [Act.put, List.setIfInBounds_toArray, List.set_cons_zero, List.set_cons_succ, i64_w, i32_w]
                        rfl
                      refine pure_ (i := 10) (N := some 31) (v := ?_) (a' := ?_) #[true, false, false, false, true, false, false, false, false, true, true, false, false, false] rfl rfl (any_of HT_.out (by kernel_rfl)) (fun _ _ _ h => h) (Or.inl ⟨by rfl, ?_⟩) ?_ ?_
                      rotate_left
                      · intro w'
                        go_simp
                        first | with_reducible rfl | (rw [if_neg (by have hz0_ : (⟨#[]⟩ : ByteArray).size = 0 := rfl; have hz1_ : (⟨#[0, 0]⟩ : ByteArray).size = 2 := rfl; (try simp only [decide_eq_true_eq, ByteArray.size_append, ByteArray.size_extract, eq_iff_iff, iff_true, iff_false, Nat.not_lt] at *); omega)]; try with_reducible rfl)
                      rotate_left
                      · simp only [Act.put, List.setIfInBounds_toArray, List.set_cons_zero, List.set_cons_succ, i64_w, i32_w]
                        rfl
                      refine take_ (i := 1) (N := some 22) (v := ?_) (a' := ?_) #[true, true, false, false, true, false, false, false, false, true, true, false, false, false] rfl rfl (take_ofW HT_.out HW_.out (by kernel_rfl)) (fun _ _ _ h => h) (Or.inl ⟨by rfl, ?_⟩) hHeld ?_ ?_
                      rotate_left
                      · rintro w' ⟨s0, s1, s2, s3⟩
                        go_simp
                        with_reducible rfl
                      rotate_left
                      · simp only [Act.put, List.setIfInBounds_toArray, List.set_cons_zero, List.set_cons_succ, i64_w, i32_w]
                        rfl
                      refine pure_ (i := 2) (N := some 23) (v := ?_) (a' := ?_) #[true, true, true, false, true, false, false, false, false, true, true, false, false, false] rfl rfl (any_of HT_.out (by kernel_rfl)) (fun _ _ _ h => h) (Or.inl ⟨by rfl, ?_⟩) ?_ ?_
                      rotate_left
                      · intro w'
                        go_simp
                        first | with_reducible rfl | (rw [if_neg (by have hz0_ : (⟨#[]⟩ : ByteArray).size = 0 := rfl; have hz1_ : (⟨#[0, 0]⟩ : ByteArray).size = 2 := rfl; (try simp only [decide_eq_true_eq, ByteArray.size_append, ByteArray.size_extract, eq_iff_iff, iff_true, iff_false, Nat.not_lt] at *); omega)]; try with_reducible rfl)
                      rotate_left
                      · simp only [Act.put, List.setIfInBounds_toArray, List.set_cons_zero, List.set_cons_succ, i64_w, i32_w]
                        rfl
                      refine take_ (i := 5) (N := some 26) (v := ?_) (a' := ?_) #[true, true, true, false, true, true, false, false, false, true, true, false, false, false] rfl rfl (take_ofW HT_.out HW_.out (by kernel_rfl)) (fun _ _ _ h => h) (Or.inl ⟨by rfl, ?_⟩) hHeld ?_ ?_
                      rotate_left
                      · rintro w' ⟨s0, s1, s2, s3⟩
                        go_simp
                        with_reducible rfl
                      rotate_left
                      · simp only [Act.put, List.setIfInBounds_toArray, List.set_cons_zero, List.set_cons_succ, i64_w, i32_w]
                        rfl
                      refine pure_ (i := 6) (N := some 27) (v := ?_) (a' := ?_) #[true, true, true, false, true, true, true, false, false, true, true, false, false, false] rfl rfl (any_of HT_.out (by kernel_rfl)) (fun _ _ _ h => h) (Or.inl ⟨by rfl, ?_⟩) ?_ ?_
                      rotate_left
                      · intro w'
                        go_simp
                        first | with_reducible rfl | (rw [if_neg (by have hz0_ : (⟨#[]⟩ : ByteArray).size = 0 := rfl; have hz1_ : (⟨#[0, 0]⟩ : ByteArray).size = 2 := rfl; (try simp only [decide_eq_true_eq, ByteArray.size_append, ByteArray.size_extract, eq_iff_iff, iff_true, iff_false, Nat.not_lt] at *); omega)]; try with_reducible rfl)
                      rotate_left
                      · simp only [Act.put, List.setIfInBounds_toArray, List.set_cons_zero, List.set_cons_succ, i64_w, i32_w]
                        rfl
                      refine one_ (i := 3) (N := some 24) #[true, true, true, true, true, true, true, false, false, true, true, false, false, false] rfl rfl (one_of HT_.out (by kernel_rfl)) (by decide) (fun K hK => ?_)
                      refine goes_ Tryd.func19 (by kernel_rfl) rfl #[.int .u64 (IntKind.u64.wrap (a2_0)), .int .i64 2] (by first | rfl | exact wanted_on rfl rfl rfl (by first | rfl | (simp [*]; done) | (simp [*, IntKind.wrap_u32]; done))) rfl rfl (by (try simp only [List.map_toArray, List.map_cons, List.map_nil]); first | done | rfl | (simp only [List.length_drop, List.length_take]; rfl)) ?_
                      with_reducible refine (gangwayref01_Bytes.calls k (IntKind.u64.wrap (a2_0)) 2 t147 _ A6.out).mono ?_
                      rintro e w75 ⟨rfl, hb⟩
                      refine ⟨_, rfl, ?_⟩
                      have n0_ := Aside0.mk (blk_below (g := gb145) (o := .cells #[.int .i64 a2_0, .int .i64 a2_1, .bool false, .string a2_3] 26 (0, 0)) (by (with_reducible repeat (first | refine blk_drewN ?_ _ | refine blk_drew ?_ | refine blk_alloc ?_ _)); exact BK145.out) hb)
                      have n1_ := Aside0.mk (below_step (by repeat (first | (with_reducible first | exact HB.out | apply below_alloc | apply pw_below_drewN | apply below_drew1 | refine below_set ?_ GE145.out) | exact HB.out)) hb)
                      clear BK145
                      clear HB
                      have BK145 := n0_
                      have HB := n1_
                      clear n0_ n1_
                      (try clear hb)
                      (try clear hb2)
                      (try clear hk)
                      (try clear hi)
                      refine hK.out _ _ ⟨(blk_cell BK145.out 0).trans rfl, (blk_cell BK145.out 1).trans rfl, (blk_cell BK145.out 2).trans rfl, (blk_cell BK145.out 3).trans rfl⟩ (fun hHeld => ?_)
                      clear hK K
                      refine norm_ (a' := ?_) ?_ ?_
                      rotate_left
                      · show Act.put _ (some 24) _ = _
                        simp only [Act.put, List.setIfInBounds_toArray, List.set_cons_zero, List.set_cons_succ, i64_w, i32_w]
                        rfl
                      refine one_ (i := 7) (N := some 28) #[true, true, true, true, true, true, true, true, false, true, true, false, false, false] rfl rfl (one_of HT_.out (by kernel_rfl)) (by decide) (fun K hK => ?_)
                      refine goes_ Tryd.func19 (by kernel_rfl) rfl #[.int .u64 (IntKind.u64.wrap (a2_1)), .int .i64 2] (by first | rfl | exact wanted_on rfl rfl rfl (by first | rfl | (simp [*]; done) | (simp [*, IntKind.wrap_u32]; done))) rfl rfl (by (try simp only [List.map_toArray, List.map_cons, List.map_nil]); first | done | rfl | (simp only [List.length_drop, List.length_take]; rfl)) ?_
                      with_reducible refine (gangwayref01_Bytes.calls k (IntKind.u64.wrap (a2_1)) 2 t148 _ A7.out).mono ?_
                      rintro e w76 ⟨rfl, hb⟩
                      refine ⟨_, rfl, ?_⟩
                      have n0_ := Aside0.mk (blk_below (g := gb145) (o := .cells #[.int .i64 a2_0, .int .i64 a2_1, .bool false, .string a2_3] 26 (0, 0)) (by (with_reducible repeat (first | refine blk_drewN ?_ _ | refine blk_drew ?_ | refine blk_alloc ?_ _)); exact BK145.out) hb)
                      have n1_ := Aside0.mk (below_step (by repeat (first | (with_reducible first | exact HB.out | apply below_alloc | apply pw_below_drewN | apply below_drew1 | refine below_set ?_ GE145.out) | exact HB.out)) hb)
                      clear BK145
                      clear HB
                      have BK145 := n0_
                      have HB := n1_
                      clear n0_ n1_
                      (try clear hb)
                      (try clear hb2)
                      (try clear hk)
                      (try clear hi)
                      refine hK.out _ _ ⟨(blk_cell BK145.out 0).trans rfl, (blk_cell BK145.out 1).trans rfl, (blk_cell BK145.out 2).trans rfl, (blk_cell BK145.out 3).trans rfl⟩ (fun hHeld => ?_)
                      clear hK K
                      refine norm_ (a' := ?_) ?_ ?_
                      rotate_left
                      · show Act.put _ (some 28) _ = _
                        simp only [Act.put, List.setIfInBounds_toArray, List.set_cons_zero, List.set_cons_succ, i64_w, i32_w]
                        rfl
                      refine pure_ (i := 8) (N := some 29) (v := ?_) (a' := ?_) #[true, true, true, true, true, true, true, true, true, true, true, false, false, false] rfl rfl (any_of HT_.out (by kernel_rfl)) (fun _ _ _ h => h) (Or.inl ⟨by rfl, ?_⟩) ?_ ?_
                      rotate_left
                      · intro w'
                        go_simp
                        first | with_reducible rfl | (rw [if_neg (by have hz0_ : (⟨#[]⟩ : ByteArray).size = 0 := rfl; have hz1_ : (⟨#[0, 0]⟩ : ByteArray).size = 2 := rfl; (try simp only [decide_eq_true_eq, ByteArray.size_append, ByteArray.size_extract, eq_iff_iff, iff_true, iff_false, Nat.not_lt] at *); omega)]; try with_reducible rfl)
                      rotate_left
                      · simp only [Act.put, List.setIfInBounds_toArray, List.set_cons_zero, List.set_cons_succ, i64_w, i32_w]
                        rfl
                      refine one_ (i := 11) (N := some 32) #[true, true, true, true, true, true, true, true, true, true, true, true, false, false] rfl rfl (one_of HT_.out (by kernel_rfl)) (by decide) (fun K hK => ?_)
                      refine goes_ Tryd.func19 (by kernel_rfl) rfl #[.int .u64 (IntKind.u64.wrap (wrap64 ((a2_3.size : Int) + 8))), .int .i64 2] (by first | rfl | exact wanted_on rfl rfl rfl (by first | rfl | (simp [*]; done) | (simp [*, IntKind.wrap_u32]; done))) rfl rfl (by (try simp only [List.map_toArray, List.map_cons, List.map_nil]); first | done | rfl | (simp only [List.length_drop, List.length_take]; rfl)) ?_
                      with_reducible refine (gangwayref01_Bytes.calls k (IntKind.u64.wrap (wrap64 ((a2_3.size : Int) + 8))) 2 t149 _ A9.out).mono ?_
                      rintro e w77 ⟨rfl, hb⟩
                      refine ⟨_, rfl, ?_⟩
                      have n0_ := Aside0.mk (blk_below (g := gb145) (o := .cells #[.int .i64 a2_0, .int .i64 a2_1, .bool false, .string a2_3] 26 (0, 0)) (by (with_reducible repeat (first | refine blk_drewN ?_ _ | refine blk_drew ?_ | refine blk_alloc ?_ _)); exact BK145.out) hb)
                      have n1_ := Aside0.mk (below_step (by repeat (first | (with_reducible first | exact HB.out | apply below_alloc | apply pw_below_drewN | apply below_drew1 | refine below_set ?_ GE145.out) | exact HB.out)) hb)
                      clear BK145
                      clear HB
                      have BK145 := n0_
                      have HB := n1_
                      clear n0_ n1_
                      (try clear hb)
                      (try clear hb2)
                      (try clear hk)
                      (try clear hi)
                      refine hK.out _ _ ⟨(blk_cell BK145.out 0).trans rfl, (blk_cell BK145.out 1).trans rfl, (blk_cell BK145.out 2).trans rfl, (blk_cell BK145.out 3).trans rfl⟩ (fun hHeld => ?_)
                      clear hK K
                      refine norm_ (a' := ?_) ?_ ?_
                      rotate_left
                      · show Act.put _ (some 32) _ = _
                        simp only [Act.put, List.setIfInBounds_toArray, List.set_cons_zero, List.set_cons_succ, i64_w, i32_w]
                        rfl
                      refine pure_ (i := 12) (N := some 33) (v := ?_) (a' := ?_) #[true, true, true, true, true, true, true, true, true, true, true, true, true, false] rfl rfl (any_of HT_.out (by kernel_rfl)) (fun _ _ _ h => h) (Or.inl ⟨by rfl, ?_⟩) ?_ ?_
                      rotate_left
                      · intro w'
                        go_simp
                        first | with_reducible rfl | (rw [if_neg (by have hz0_ : (⟨#[]⟩ : ByteArray).size = 0 := rfl; have hz1_ : (⟨#[0, 0]⟩ : ByteArray).size = 2 := rfl; (try simp only [decide_eq_true_eq, ByteArray.size_append, ByteArray.size_extract, eq_iff_iff, iff_true, iff_false, Nat.not_lt] at *); omega)]; try with_reducible rfl)
                      rotate_left
                      · simp only [Act.put, List.setIfInBounds_toArray, List.set_cons_zero, List.set_cons_succ, i64_w, i32_w]
                        rfl
                      refine pure_ (i := 13) (N := some 10) (v := ?_) (a' := ?_) #[true, true, true, true, true, true, true, true, true, true, true, true, true, true] rfl rfl (any_of HT_.out (by kernel_rfl)) (fun _ _ _ h => h) (Or.inl ⟨by rfl, ?_⟩) ?_ ?_
                      rotate_left
                      · intro w'
                        go_simp
                        first | with_reducible rfl | (rw [if_neg (by have hz0_ : (⟨#[]⟩ : ByteArray).size = 0 := rfl; have hz1_ : (⟨#[0, 0]⟩ : ByteArray).size = 2 := rfl; (try simp only [decide_eq_true_eq, ByteArray.size_append, ByteArray.size_extract, eq_iff_iff, iff_true, iff_false, Nat.not_lt] at *); omega)]; try with_reducible rfl)
                      rotate_left
                      · simp only [Act.put, List.setIfInBounds_toArray, List.set_cons_zero, List.set_cons_succ, i64_w, i32_w]
                        rfl
                      refine done_ (done_of HT_.out (by kernel_rfl)) ?_
                      try go_wp2
                      have n0_ := Aside0.mk (blk_drew BK145.out)
                      have n1_ := Aside0.mk (below_drew1 HB.out)
                      clear BK145
                      clear HB
                      have BK145 := n0_
                      have HB := n1_
                      clear n0_ n1_
                      refine start_ (n := 12) (S := fun w' => w'.cell? ⟨gb145, 0, none⟩ = some (.int .i64 a2_0) ∧ w'.cell? ⟨gb145, 1, none⟩ = some (.int .i64 a2_1) ∧ w'.cell? ⟨gb145, 2, none⟩ = some (.bool false) ∧ w'.cell? ⟨gb145, 3, none⟩ = some (.string a2_3)) (ds := []) #[false, false, false, false, false, false, false, false, false, false, false, false] (by kernel_rfl) rfl rfl ⟨(blk_cell BK145.out 0).trans rfl, (blk_cell BK145.out 1).trans rfl, (blk_cell BK145.out 2).trans rfl, (blk_cell BK145.out 3).trans rfl⟩ (fun hHeld => ?_); refine with_tabW gangwayref07_Build.tab6 gangwayref07_Build.bits6 (fun HT_ HW_ => ?_)
                      generalize w77.drew = w78 at BK145 HB hHeld ⊢
                      refine pure_ (i := 0) (N := some 34) (v := ?_) (a' := ?_) #[true, false, false, false, false, false, false, false, false, false, false, false] rfl rfl (any_of HT_.out (by kernel_rfl)) (fun _ _ _ h => h) (Or.inl ⟨by rfl, ?_⟩) ?_ ?_
                      rotate_left
                      · intro w'
                        go_simp
                        first | with_reducible rfl | (rw [if_neg (by have hz0_ : (⟨#[]⟩ : ByteArray).size = 0 := rfl; have hz1_ : (⟨#[0, 0]⟩ : ByteArray).size = 2 := rfl; (try simp only [decide_eq_true_eq, ByteArray.size_append, ByteArray.size_extract, eq_iff_iff, iff_true, iff_false, Nat.not_lt] at *); omega)]; try with_reducible rfl)
                      rotate_left
                      · simp only [Act.put, List.setIfInBounds_toArray, List.set_cons_zero, List.set_cons_succ, i64_w, i32_w]
                        rfl
                      refine pure_ (i := 1) (N := some 35) (v := ?_) (a' := ?_) #[true, true, false, false, false, false, false, false, false, false, false, false] rfl rfl (any_of HT_.out (by kernel_rfl)) (fun _ _ _ h => h) (Or.inl ⟨by rfl, ?_⟩) ?_ ?_
                      rotate_left
                      · intro w'
                        go_simp
                        first | with_reducible rfl | (rw [if_neg (by have hz0_ : (⟨#[]⟩ : ByteArray).size = 0 := rfl; have hz1_ : (⟨#[0, 0]⟩ : ByteArray).size = 2 := rfl; (try simp only [decide_eq_true_eq, ByteArray.size_append, ByteArray.size_extract, eq_iff_iff, iff_true, iff_false, Nat.not_lt] at *); omega)]; try with_reducible rfl)
                      rotate_left
                      · simp only [Act.put, List.setIfInBounds_toArray, List.set_cons_zero, List.set_cons_succ, i64_w, i32_w]
                        rfl
                      refine pure_ (i := 2) (N := some 36) (v := ?_) (a' := ?_) #[true, true, true, false, false, false, false, false, false, false, false, false] rfl rfl (any_of HT_.out (by kernel_rfl)) (fun _ _ _ h => h) (Or.inl ⟨by rfl, ?_⟩) ?_ ?_
                      rotate_left
                      · intro w'
                        go_simp
                        first | with_reducible rfl | (rw [if_neg (by have hz0_ : (⟨#[]⟩ : ByteArray).size = 0 := rfl; have hz1_ : (⟨#[0, 0]⟩ : ByteArray).size = 2 := rfl; (try simp only [decide_eq_true_eq, ByteArray.size_append, ByteArray.size_extract, eq_iff_iff, iff_true, iff_false, Nat.not_lt] at *); omega)]; try with_reducible rfl)
                      rotate_left
                      · simp only [Act.put, List.setIfInBounds_toArray, List.set_cons_zero, List.set_cons_succ, i64_w, i32_w]
                        rfl
                      refine pure_ (i := 4) (N := some 38) (v := ?_) (a' := ?_) #[true, true, true, false, true, false, false, false, false, false, false, false] rfl rfl (any_of HT_.out (by kernel_rfl)) (fun _ _ _ h => h) (Or.inl ⟨by rfl, ?_⟩) ?_ ?_
                      rotate_left
                      · intro w'
                        go_simp
                        first | with_reducible rfl | (rw [if_neg (by have hz0_ : (⟨#[]⟩ : ByteArray).size = 0 := rfl; have hz1_ : (⟨#[0, 0]⟩ : ByteArray).size = 2 := rfl; (try simp only [decide_eq_true_eq, ByteArray.size_append, ByteArray.size_extract, eq_iff_iff, iff_true, iff_false, Nat.not_lt] at *); omega)]; try with_reducible rfl)
                      rotate_left
                      · simp only [Act.put, List.setIfInBounds_toArray, List.set_cons_zero, List.set_cons_succ, i64_w, i32_w]
                        rfl
                      refine pure_ (i := 7) (N := some 41) (v := ?_) (a' := ?_) #[true, true, true, false, true, false, false, true, false, false, false, false] rfl rfl (any_of HT_.out (by kernel_rfl)) (fun _ _ _ h => h) (Or.inl ⟨by rfl, ?_⟩) ?_ ?_
                      rotate_left
                      · intro w'
                        go_simp
                        first | with_reducible rfl | (rw [if_neg (by have hz0_ : (⟨#[]⟩ : ByteArray).size = 0 := rfl; have hz1_ : (⟨#[0, 0]⟩ : ByteArray).size = 2 := rfl; (try simp only [decide_eq_true_eq, ByteArray.size_append, ByteArray.size_extract, eq_iff_iff, iff_true, iff_false, Nat.not_lt] at *); omega)]; try with_reducible rfl)
                      rotate_left
                      · simp only [Act.put, List.setIfInBounds_toArray, List.set_cons_zero, List.set_cons_succ, i64_w, i32_w]
                        rfl
                      refine take_ (i := 8) (N := some 42) (v := ?_) (a' := ?_) #[true, true, true, false, true, false, false, true, true, false, false, false] rfl rfl (take_ofW HT_.out HW_.out (by kernel_rfl)) (fun _ _ _ h => h) (Or.inl ⟨by rfl, ?_⟩) hHeld ?_ ?_
                      rotate_left
                      · rintro w' ⟨s0, s1, s2, s3⟩
                        go_simp
                        with_reducible rfl
                      rotate_left
                      · simp only [Act.put, List.setIfInBounds_toArray, List.set_cons_zero, List.set_cons_succ, i64_w, i32_w]
                        rfl
                      refine one_ (i := 3) (N := some 37) #[true, true, true, true, true, false, false, true, true, false, false, false] rfl rfl (one_of HT_.out (by kernel_rfl)) (by decide) (fun K hK => ?_)
                      refine goes_ Tryd.func21 (by kernel_rfl) rfl #[.int .u32 a0, .int .u32 a1, .int .i64 17, .int .i64 (wrap64 ((a2_3.size : Int) + 8))] (by first | rfl | exact wanted_on rfl rfl rfl (by first | rfl | (simp [*]; done) | (simp [*, IntKind.wrap_u32]; done))) rfl rfl (by (try simp only [List.map_toArray, List.map_cons, List.map_nil]); first | done | rfl | (simp only [List.length_drop, List.length_take]; rfl)) ?_
                      with_reducible refine (gangwayref03_Head.calls k a0 a1 17 (wrap64 ((a2_3.size : Int) + 8)) t150 _ A11.out).mono ?_
                      rintro e w79 ⟨rfl, hb⟩
                      refine ⟨_, rfl, ?_⟩
                      have n0_ := Aside0.mk (blk_below (g := gb145) (o := .cells #[.int .i64 a2_0, .int .i64 a2_1, .bool false, .string a2_3] 26 (0, 0)) (by (with_reducible repeat (first | refine blk_drewN ?_ _ | refine blk_drew ?_ | refine blk_alloc ?_ _)); exact BK145.out) hb)
                      have n1_ := Aside0.mk (below_step (by repeat (first | (with_reducible first | exact HB.out | apply below_alloc | apply pw_below_drewN | apply below_drew1 | refine below_set ?_ GE145.out) | exact HB.out)) hb)
                      clear BK145
                      clear HB
                      have BK145 := n0_
                      have HB := n1_
                      clear n0_ n1_
                      (try clear hb)
                      (try clear hb2)
                      (try clear hk)
                      (try clear hi)
                      refine hK.out _ _ ⟨(blk_cell BK145.out 0).trans rfl, (blk_cell BK145.out 1).trans rfl, (blk_cell BK145.out 2).trans rfl, (blk_cell BK145.out 3).trans rfl⟩ (fun hHeld => ?_)
                      clear hK K
                      refine norm_ (a' := ?_) ?_ ?_
                      rotate_left
                      · show Act.put _ (some 37) _ = _
                        simp only [Act.put, List.setIfInBounds_toArray, List.set_cons_zero, List.set_cons_succ, i64_w, i32_w]
                        rfl
                      refine pure_ (i := 5) (N := some 39) (v := ?_) (a' := ?_) #[true, true, true, true, true, true, false, true, true, false, false, false] rfl rfl (any_of HT_.out (by kernel_rfl)) (fun _ _ _ h => h) (Or.inl ⟨by rfl, ?_⟩) ?_ ?_
                      rotate_left
                      · intro w'
                        go_simp
                        first | with_reducible rfl | (rw [if_neg (by have hz0_ : (⟨#[]⟩ : ByteArray).size = 0 := rfl; have hz1_ : (⟨#[0, 0]⟩ : ByteArray).size = 2 := rfl; (try simp only [decide_eq_true_eq, ByteArray.size_append, ByteArray.size_extract, eq_iff_iff, iff_true, iff_false, Nat.not_lt] at *); omega)]; try with_reducible rfl)
                      rotate_left
                      · simp only [Act.put, List.setIfInBounds_toArray, List.set_cons_zero, List.set_cons_succ, i64_w, i32_w]
                        rfl
                      refine pure_ (i := 6) (N := some 40) (v := ?_) (a' := ?_) #[true, true, true, true, true, true, true, true, true, false, false, false] rfl rfl (any_of HT_.out (by kernel_rfl)) (fun _ _ _ h => h) (Or.inl ⟨by rfl, ?_⟩) ?_ ?_
                      rotate_left
                      · intro w'
                        go_simp
                        first | with_reducible rfl | (rw [if_neg (by have hz0_ : (⟨#[]⟩ : ByteArray).size = 0 := rfl; have hz1_ : (⟨#[0, 0]⟩ : ByteArray).size = 2 := rfl; (try simp only [decide_eq_true_eq, ByteArray.size_append, ByteArray.size_extract, eq_iff_iff, iff_true, iff_false, Nat.not_lt] at *); omega)]; try with_reducible rfl)
                      rotate_left
                      · simp only [Act.put, List.setIfInBounds_toArray, List.set_cons_zero, List.set_cons_succ, i64_w, i32_w]
                        rfl
                      refine pure_ (i := 9) (N := some 43) (v := ?_) (a' := ?_) #[true, true, true, true, true, true, true, true, true, true, false, false] rfl rfl (any_of HT_.out (by kernel_rfl)) (fun _ _ _ h => h) (Or.inl ⟨by rfl, ?_⟩) ?_ ?_
                      rotate_left
                      · intro w'
                        go_simp
                        first | with_reducible rfl | (rw [if_neg (by have hz0_ : (⟨#[]⟩ : ByteArray).size = 0 := rfl; have hz1_ : (⟨#[0, 0]⟩ : ByteArray).size = 2 := rfl; (try simp only [decide_eq_true_eq, ByteArray.size_append, ByteArray.size_extract, eq_iff_iff, iff_true, iff_false, Nat.not_lt] at *); omega)]; try with_reducible rfl)
                      rotate_left
                      · simp only [Act.put, List.setIfInBounds_toArray, List.set_cons_zero, List.set_cons_succ, i64_w, i32_w]
                        rfl
                      refine one_ (i := 10) (N := some 44) #[true, true, true, true, true, true, true, true, true, true, true, false] rfl rfl (one_of HT_.out (by kernel_rfl)) (by decide) (fun K hK => ?_)
                      refine goes_ Tryd.func20 (by kernel_rfl) rfl #[.string (((t150 ++ ((t147 ++ t148) ++ t149)) ++ (⟨#[0, 0]⟩ : ByteArray)) ++ a2_3)] (by first | rfl | exact wanted_on rfl rfl rfl (by first | rfl | (simp [*]; done) | (simp [*, IntKind.wrap_u32]; done))) rfl rfl (by (try simp only [List.map_toArray, List.map_cons, List.map_nil]); first | done | rfl | (simp only [List.length_drop, List.length_take]; rfl)) ?_
                      with_reducible refine (gangwayref03_Of.calls k (((t150 ++ ((t147 ++ t148) ++ t149)) ++ (⟨#[0, 0]⟩ : ByteArray)) ++ a2_3) t151 _ A15.out).mono ?_
                      rintro e w' ⟨rfl, ⟨nd, rfl⟩⟩
                      refine ⟨_, rfl, ?_⟩
                      refine hK.out _ _ ⟨(blk_cell BK145.out 0).trans rfl, (blk_cell BK145.out 1).trans rfl, (blk_cell BK145.out 2).trans rfl, (blk_cell BK145.out 3).trans rfl⟩ (fun hHeld => ?_)
                      clear hK K
                      refine norm_ (a' := ?_) ?_ ?_
                      rotate_left
                      · show Act.put _ (some 44) _ = _
                        simp only [Act.put, List.setIfInBounds_toArray, List.set_cons_zero, List.set_cons_succ, i64_w, i32_w]
                        rfl
                      refine pure_ (i := 11) (N := some 11) (v := ?_) (a' := ?_) #[true, true, true, true, true, true, true, true, true, true, true, true] rfl rfl (any_of HT_.out (by kernel_rfl)) (fun _ _ _ h => h) (Or.inl ⟨by rfl, ?_⟩) ?_ ?_
                      rotate_left
                      · intro w'
                        go_simp
                        first | with_reducible rfl | (rw [if_neg (by have hz0_ : (⟨#[]⟩ : ByteArray).size = 0 := rfl; have hz1_ : (⟨#[0, 0]⟩ : ByteArray).size = 2 := rfl; (try simp only [decide_eq_true_eq, ByteArray.size_append, ByteArray.size_extract, eq_iff_iff, iff_true, iff_false, Nat.not_lt] at *); omega)]; try with_reducible rfl)
                      rotate_left
                      · simp only [Act.put, List.setIfInBounds_toArray, List.set_cons_zero, List.set_cons_succ, i64_w, i32_w]
                        rfl
                      refine done_ (done_of HT_.out (by kernel_rfl)) ?_
                      have hcz80_0 : w79.cell? ⟨gb145, 0, none⟩ = some (.int .i64 a2_0) := (blk_cell BK145.out 0).trans rfl
                      have hcz80_1 : w79.cell? ⟨gb145, 1, none⟩ = some (.int .i64 a2_1) := (blk_cell BK145.out 1).trans rfl
                      have hcz80_2 : w79.cell? ⟨gb145, 2, none⟩ = some (.bool false) := (blk_cell BK145.out 2).trans rfl
                      have hcz80_3 : w79.cell? ⟨gb145, 3, none⟩ = some (.string a2_3) := (blk_cell BK145.out 3).trans rfl
                      have hfz80_0 := blk_frozen BK145.out 0
                      have hfz80_1 := blk_frozen BK145.out 1
                      have hfz80_2 := blk_frozen BK145.out 2
                      have hfz80_3 := blk_frozen BK145.out 3
                      try go_wp2
                      (try (rw [drewN_self w79]; generalize hq_ : World.drewN w79 _ = w79; have n0_ : Aside0 (w79.heap[gb145]? = some (.cells #[.int .i64 a2_0, .int .i64 a2_1, .bool false, .string a2_3] 26 (0, 0))) := ⟨by rw [← hq_]; exact (by (with_reducible repeat (first | refine blk_drewN ?_ _ | refine blk_drew ?_ | refine blk_alloc ?_ _)); exact BK145.out)⟩; have n1_ : Aside0 (Below w.heap.size w w79) := ⟨by rw [← hq_]; exact (by repeat (first | (with_reducible first | exact HB.out | apply below_alloc | apply pw_below_drewN | apply below_drew1 | refine below_set ?_ GE145.out) | exact HB.out))⟩; clear BK145 HB hq_; have BK145 := n0_; have HB := n1_; clear n0_ n1_))
                      have n0_ := Aside0.mk (blk_drew BK145.out)
                      have n1_ := Aside0.mk (below_drew1 HB.out)
                      clear BK145
                      clear HB
                      have BK145 := n0_
                      have HB := n1_
                      clear n0_ n1_
                      refine start_ (n := 10) (S := fun w' => w'.cell? ⟨gb145, 0, none⟩ = some (.int .i64 a2_0) ∧ w'.cell? ⟨gb145, 1, none⟩ = some (.int .i64 a2_1) ∧ w'.cell? ⟨gb145, 2, none⟩ = some (.bool false) ∧ w'.cell? ⟨gb145, 3, none⟩ = some (.string a2_3)) (ds := []) #[false, false, false, false, false, false, false, false, false, false] (by kernel_rfl) rfl rfl ⟨(blk_cell BK145.out 0).trans rfl, (blk_cell BK145.out 1).trans rfl, (blk_cell BK145.out 2).trans rfl, (blk_cell BK145.out 3).trans rfl⟩ (fun hHeld => ?_); refine with_tabW gangwayref07_Build.tab11 gangwayref07_Build.bits11 (fun HT_ HW_ => ?_)
                      generalize w79.drew = w81 at BK145 HB hHeld ⊢
                      refine pure_ (i := 0) (N := some 49) (v := ?_) (a' := ?_) #[true, false, false, false, false, false, false, false, false, false] rfl rfl (any_of HT_.out (by kernel_rfl)) (fun _ _ _ h => h) (Or.inl ⟨by rfl, ?_⟩) ?_ ?_
                      rotate_left
                      · intro w'
                        go_simp
                        first | with_reducible rfl | (rw [if_neg (by have hz0_ : (⟨#[]⟩ : ByteArray).size = 0 := rfl; have hz1_ : (⟨#[0, 0]⟩ : ByteArray).size = 2 := rfl; (try simp only [decide_eq_true_eq, ByteArray.size_append, ByteArray.size_extract, eq_iff_iff, iff_true, iff_false, Nat.not_lt] at *); omega)]; try with_reducible rfl)
                      rotate_left
                      · simp only [Act.put, List.setIfInBounds_toArray, List.set_cons_zero, List.set_cons_succ, i64_w, i32_w]
                        rfl
                      refine pure_ (i := 1) (N := some 50) (v := ?_) (a' := ?_) #[true, true, false, false, false, false, false, false, false, false] rfl rfl (any_of HT_.out (by kernel_rfl)) (fun _ _ _ h => h) (Or.inl ⟨by rfl, ?_⟩) ?_ ?_
                      rotate_left
                      · intro w'
                        go_simp
                        first | with_reducible rfl | (rw [if_neg (by have hz0_ : (⟨#[]⟩ : ByteArray).size = 0 := rfl; have hz1_ : (⟨#[0, 0]⟩ : ByteArray).size = 2 := rfl; (try simp only [decide_eq_true_eq, ByteArray.size_append, ByteArray.size_extract, eq_iff_iff, iff_true, iff_false, Nat.not_lt] at *); omega)]; try with_reducible rfl)
                      rotate_left
                      · simp only [Act.put, List.setIfInBounds_toArray, List.set_cons_zero, List.set_cons_succ, i64_w, i32_w]
                        rfl
                      refine pure_ (i := 2) (N := some 51) (v := ?_) (a' := ?_) #[true, true, true, false, false, false, false, false, false, false] rfl rfl (any_of HT_.out (by kernel_rfl)) (fun _ _ _ h => h) (Or.inl ⟨by rfl, ?_⟩) ?_ ?_
                      rotate_left
                      · intro w'
                        go_simp
                        first | with_reducible rfl | (rw [if_neg (by have hz0_ : (⟨#[]⟩ : ByteArray).size = 0 := rfl; have hz1_ : (⟨#[0, 0]⟩ : ByteArray).size = 2 := rfl; (try simp only [decide_eq_true_eq, ByteArray.size_append, ByteArray.size_extract, eq_iff_iff, iff_true, iff_false, Nat.not_lt] at *); omega)]; try with_reducible rfl)
                      rotate_left
                      · simp only [Act.put, List.setIfInBounds_toArray, List.set_cons_zero, List.set_cons_succ, i64_w, i32_w]
                        rfl
                      refine pure_ (i := 5) (N := some 54) (v := ?_) (a' := ?_) #[true, true, true, false, false, true, false, false, false, false] rfl rfl (any_of HT_.out (by kernel_rfl)) (fun _ _ _ h => h) (Or.inl ⟨by rfl, ?_⟩) ?_ ?_
                      rotate_left
                      · intro w'
                        go_simp
                        first | with_reducible rfl | (rw [if_neg (by have hz0_ : (⟨#[]⟩ : ByteArray).size = 0 := rfl; have hz1_ : (⟨#[0, 0]⟩ : ByteArray).size = 2 := rfl; (try simp only [decide_eq_true_eq, ByteArray.size_append, ByteArray.size_extract, eq_iff_iff, iff_true, iff_false, Nat.not_lt] at *); omega)]; try with_reducible rfl)
                      rotate_left
                      · simp only [Act.put, List.setIfInBounds_toArray, List.set_cons_zero, List.set_cons_succ, i64_w, i32_w]
                        rfl
                      refine take_ (i := 6) (N := some 55) (v := ?_) (a' := ?_) #[true, true, true, false, false, true, true, false, false, false] rfl rfl (take_ofW HT_.out HW_.out (by kernel_rfl)) (fun _ _ _ h => h) (Or.inl ⟨by rfl, ?_⟩) hHeld ?_ ?_
                      rotate_left
                      · rintro w' ⟨s0, s1, s2, s3⟩
                        go_simp
                        with_reducible rfl
                      rotate_left
                      · simp only [Act.put, List.setIfInBounds_toArray, List.set_cons_zero, List.set_cons_succ, i64_w, i32_w]
                        rfl
                      refine one_ (i := 3) (N := some 52) #[true, true, true, true, false, true, true, false, false, false] rfl rfl (one_of HT_.out (by kernel_rfl)) (by decide) (fun K hK => ?_)
                      refine goes_ Tryd.func19 (by kernel_rfl) rfl #[.int .u64 (IntKind.u64.wrap (t151)), .int .i64 2] (by first | rfl | exact wanted_on rfl rfl rfl (by first | rfl | (simp [*]; done) | (simp [*, IntKind.wrap_u32]; done))) rfl rfl (by (try simp only [List.map_toArray, List.map_cons, List.map_nil]); first | done | rfl | (simp only [List.length_drop, List.length_take]; rfl)) ?_
                      with_reducible refine (gangwayref01_Bytes.calls k (IntKind.u64.wrap (t151)) 2 t155 _ A67.out).mono ?_
                      rintro e w82 ⟨rfl, hb⟩
                      refine ⟨_, rfl, ?_⟩
                      have n0_ := Aside0.mk (blk_below (g := gb145) (o := .cells #[.int .i64 a2_0, .int .i64 a2_1, .bool false, .string a2_3] 26 (0, 0)) (by (with_reducible repeat (first | refine blk_drewN ?_ _ | refine blk_drew ?_ | refine blk_alloc ?_ _)); exact BK145.out) hb)
                      have n1_ := Aside0.mk (below_step (by repeat (first | (with_reducible first | exact HB.out | apply below_alloc | apply pw_below_drewN | apply below_drew1 | refine below_set ?_ GE145.out) | exact HB.out)) hb)
                      clear BK145
                      clear HB
                      have BK145 := n0_
                      have HB := n1_
                      clear n0_ n1_
                      (try clear hb)
                      (try clear hb2)
                      (try clear hk)
                      (try clear hi)
                      refine hK.out _ _ ⟨(blk_cell BK145.out 0).trans rfl, (blk_cell BK145.out 1).trans rfl, (blk_cell BK145.out 2).trans rfl, (blk_cell BK145.out 3).trans rfl⟩ (fun hHeld => ?_)
                      clear hK K
                      refine norm_ (a' := ?_) ?_ ?_
                      rotate_left
                      · show Act.put _ (some 52) _ = _
                        simp only [Act.put, List.setIfInBounds_toArray, List.set_cons_zero, List.set_cons_succ, i64_w, i32_w]
                        rfl
                      refine pure_ (i := 4) (N := some 53) (v := ?_) (a' := ?_) #[true, true, true, true, true, true, true, false, false, false] rfl rfl (any_of HT_.out (by kernel_rfl)) (fun _ _ _ h => h) (Or.inl ⟨by rfl, ?_⟩) ?_ ?_
                      rotate_left
                      · intro w'
                        go_simp
                        first | with_reducible rfl | (rw [if_neg (by have hz0_ : (⟨#[]⟩ : ByteArray).size = 0 := rfl; have hz1_ : (⟨#[0, 0]⟩ : ByteArray).size = 2 := rfl; (try simp only [decide_eq_true_eq, ByteArray.size_append, ByteArray.size_extract, eq_iff_iff, iff_true, iff_false, Nat.not_lt] at *); omega)]; try with_reducible rfl)
                      rotate_left
                      · simp only [Act.put, List.setIfInBounds_toArray, List.set_cons_zero, List.set_cons_succ, i64_w, i32_w]
                        rfl
                      refine pure_ (i := 7) (N := some 56) (v := ?_) (a' := ?_) #[true, true, true, true, true, true, true, true, false, false] rfl rfl (any_of HT_.out (by kernel_rfl)) (fun _ _ _ h => h) (Or.inl ⟨by rfl, ?_⟩) ?_ ?_
                      rotate_left
                      · intro w'
                        go_simp
                        first | with_reducible rfl | (rw [if_neg (by have hz0_ : (⟨#[]⟩ : ByteArray).size = 0 := rfl; have hz1_ : (⟨#[0, 0]⟩ : ByteArray).size = 2 := rfl; (try simp only [decide_eq_true_eq, ByteArray.size_append, ByteArray.size_extract, eq_iff_iff, iff_true, iff_false, Nat.not_lt] at *); omega)]; try with_reducible rfl)
                      rotate_left
                      · simp only [Act.put, List.setIfInBounds_toArray, List.set_cons_zero, List.set_cons_succ, i64_w, i32_w]
                        rfl
                      refine pure_ (i := 8) (N := some 6) (v := ?_) (a' := ?_) #[true, true, true, true, true, true, true, true, true, false] rfl rfl (any_of HT_.out (by kernel_rfl)) (fun _ _ _ h => h) (Or.inl ⟨by rfl, ?_⟩) ?_ ?_
                      rotate_left
                      · intro w'
                        go_simp
                        first | with_reducible rfl | (rw [if_neg (by have hz0_ : (⟨#[]⟩ : ByteArray).size = 0 := rfl; have hz1_ : (⟨#[0, 0]⟩ : ByteArray).size = 2 := rfl; (try simp only [decide_eq_true_eq, ByteArray.size_append, ByteArray.size_extract, eq_iff_iff, iff_true, iff_false, Nat.not_lt] at *); omega)]; try with_reducible rfl)
                      rotate_left
                      · simp only [Act.put, List.setIfInBounds_toArray, List.set_cons_zero, List.set_cons_succ, i64_w, i32_w]
                        rfl
                      refine pure_ (i := 9) (N := some 7) (v := ?_) (a' := ?_) #[true, true, true, true, true, true, true, true, true, true] rfl rfl (any_of HT_.out (by kernel_rfl)) (fun _ _ _ h => h) (Or.inl ⟨by rfl, ?_⟩) ?_ ?_
                      rotate_left
                      · intro w'
                        go_simp
                        first | with_reducible rfl | (rw [if_neg (by have hz0_ : (⟨#[]⟩ : ByteArray).size = 0 := rfl; have hz1_ : (⟨#[0, 0]⟩ : ByteArray).size = 2 := rfl; (try simp only [decide_eq_true_eq, ByteArray.size_append, ByteArray.size_extract, eq_iff_iff, iff_true, iff_false, Nat.not_lt] at *); omega)]; try with_reducible rfl)
                      rotate_left
                      · simp only [Act.put, List.setIfInBounds_toArray, List.set_cons_zero, List.set_cons_succ, i64_w, i32_w]
                        rfl
                      refine done_ (done_of HT_.out (by kernel_rfl)) ?_
                      try go_wp2
                      go_ret2
                      exact ⟨by first | rfl | (simp [errW_none, errW_some] <;> rfl) | (simp [*, errW_none, errW_some] <;> rfl) | (simp [*, IntKind.wrap_u32]; done) | (simp_all [IntKind.wrap_u32]; done), by repeat (first | (with_reducible first | exact HB.out | apply below_alloc | apply pw_below_drewN | apply below_drew1 | refine below_set ?_ GE145.out) | exact HB.out)⟩
                    · rw [if_neg c69] at H
                      exact absurd H (by simp)
                  · rw [if_neg c68] at H
                    exact absurd H (by simp)
            · rw [if_neg c14] at H
              exact absurd H (by simp)
          · rw [if_neg c13] at H
            exact absurd H (by simp)
        · rw [if_neg c12] at H
          exact absurd H (by simp)
      · rw [if_neg c10] at H
        exact absurd H (by simp)
    · rw [if_neg c8] at H
      exact absurd H (by simp)
  · rw [if_neg c5] at H
    have c5b0 : (t146 == 0) = false := beq_eq_false_iff_ne.mpr c5
    have c5b1 : (t146 != 0) = true := bne_iff_ne.mpr c5
    simp only [Option.some.injEq, Prod.mk.injEq] at H
    obtain ⟨rfl, rfl⟩ := H
    go_enter Tryd.func10, Tryd.ntmps10
    go_wp2_with (first | ((with_reducible refine gate_dst (N := 5) rfl ?_); refine box_event ?hg (N := 5) ?hd (cs := #[.int .i64 a2_0, .int .i64 a2_1, .bool a2_2, .string a2_3]) (t := 26) ?hr ?_; (case hd => rfl); (case hg => rfl); (case hr => first | (go_simp; done) | (go_simp; rfl)); intro gb145 hg w83 hbox hb; have n0_ := Aside0.mk (below_step (by repeat (first | (with_reducible first | exact HB.out | apply below_alloc | apply pw_below_drewN | apply below_drew1) | exact HB.out)) hb); have n1_ := Aside0.mk (hbox); have n2_ := Aside0.mk ((by rw [hg]; exact (below_size (by repeat (first | (with_reducible first | exact HB.out | apply below_alloc | apply pw_below_drewN | apply below_drew1) | exact HB.out))) : w.heap.size ≤ gb145)); have n3_ := Aside0.mk ((by rw [hg]; exact (below_size (by repeat (first | (with_reducible first | exact HB.out | apply below_alloc | apply pw_below_drewN | apply below_drew1) | exact HB.out))) : w.heap.size ≤ gb145)); clear HB; have HB := n0_; have BK145 := n1_; have GW145 := n2_; have GE145 := n3_; clear n0_ n1_ n2_ n3_; clear hb hbox hg; have hcz84_0 : w83.cell? ⟨gb145, 0, none⟩ = some (.int .i64 a2_0) := (blk_cell BK145.out 0).trans rfl; have hcz84_1 : w83.cell? ⟨gb145, 1, none⟩ = some (.int .i64 a2_1) := (blk_cell BK145.out 1).trans rfl; have hcz84_2 : w83.cell? ⟨gb145, 2, none⟩ = some (.bool a2_2) := (blk_cell BK145.out 2).trans rfl; have hcz84_3 : w83.cell? ⟨gb145, 3, none⟩ = some (.string a2_3) := (blk_cell BK145.out 3).trans rfl; have hfz84_0 := blk_frozen BK145.out 0; have hfz84_1 := blk_frozen BK145.out 1; have hfz84_2 := blk_frozen BK145.out 2; have hfz84_3 := blk_frozen BK145.out 3) | ((with_reducible refine gate_callee (f := 13) rfl ?_); refine goesL_ (some 13) rfl rfl Tryd.func13 (by kernel_rfl) rfl #[.agg #[.int .i64 a2_0, .int .i64 a2_1, .bool a2_2, .string a2_3]] rfl (by (try simp only [List.map_toArray, List.map_cons, List.map_nil]); first | done | rfl | (simp only [List.length_drop, List.length_take]; rfl)) ?_; (with_reducible refine (gangwayref07_Check.calls a2_0 a2_1 a2_2 a2_3 t146 _ A4.out).mono ?_); rintro e w85 ⟨rfl, hb⟩; refine ⟨_, rfl, ?_⟩; have n0_ := Aside0.mk (blk_below (g := gb145) (o := .cells #[.int .i64 a2_0, .int .i64 a2_1, .bool a2_2, .string a2_3] 26 (0, 0)) (by (with_reducible repeat (first | refine blk_drewN ?_ _ | refine blk_drew ?_ | refine blk_alloc ?_ _)); exact BK145.out) hb); have n1_ := Aside0.mk (below_step (by repeat (first | (with_reducible first | exact HB.out | apply below_alloc | apply pw_below_drewN | apply below_drew1 | refine below_set ?_ GE145.out) | exact HB.out)) hb); clear BK145; clear HB; have BK145 := n0_; have HB := n1_; clear n0_ n1_; have hcy1_145_0 := (show World.cell? _ ⟨gb145, 0, none⟩ = some (.int .i64 a2_0) from (blk_cell BK145.out 0).trans rfl); have hcy1_145_1 := (show World.cell? _ ⟨gb145, 1, none⟩ = some (.int .i64 a2_1) from (blk_cell BK145.out 1).trans rfl); have hcy1_145_2 := (show World.cell? _ ⟨gb145, 2, none⟩ = some (.bool a2_2) from (blk_cell BK145.out 2).trans rfl); have hcy1_145_3 := (show World.cell? _ ⟨gb145, 3, none⟩ = some (.string a2_3) from (blk_cell BK145.out 3).trans rfl); (try clear hb); (try clear hb2); (try clear hk); (try clear hi)))
    go_ret2
    exact ⟨by first | rfl | (simp [errW_none, errW_some] <;> rfl) | (simp [*, errW_none, errW_some] <;> rfl) | (simp [*, IntKind.wrap_u32]; done) | (simp_all [IntKind.wrap_u32]; done), by repeat (first | (with_reducible first | exact HB.out | apply below_alloc | apply pw_below_drewN | apply below_drew1 | refine below_set ?_ GE145.out) | exact HB.out)⟩

end Go.Proofs.YtppaikjbafobbaaDoor.P
