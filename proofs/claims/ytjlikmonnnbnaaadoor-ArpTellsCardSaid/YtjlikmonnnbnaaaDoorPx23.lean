-- Written by wip/hprint.py (this session's program) through the kit's print program; hand contracts are marked 'by hand'.
import Derived.Test.YtjlikmonnnbnaaaDoorPx0
import Derived.Test.YtjlikmonnnbnaaaDoorPx21
import Derived.Test.YtjlikmonnnbnaaaDoorPx22
namespace Go.Proofs.YtjlikmonnnbnaaaDoor.P
open Go.RowKit Go.Proofs.YtjlikmonnnbnaaaDoorW.PrintWords Go.Proofs.YtjlikmonnnbnaaaDoorW.PrintLast Go.Proofs.YtjlikmonnnbnaaaDoorW.PrintMore
attribute [local go_sem] max2_int min2_int max_two min_two max_three min_three max_four min_four   -- for this text's walks alone
set_option linter.unusedVariables false
set_option linter.unusedSimpArgs false

/-! ### ether_Build: function 18 -/
def ether_Build.f (k : Nat) (a0_0 : Int) (a0_1 : Int) (a0_2 : Bool) (a0_3 : Int) (a0_4 : Bool) (a0_5 : Int) (a0_6 : Int) (a0_7 : ByteArray) : Option (ByteArray × Int) := (ether_Check.f k a0_0 a0_1 a0_2 a0_3 a0_4 a0_5 a0_6 a0_7).bind fun t269 => (if t269 = 0 then ((ether_put.f k a0_0 6).bind fun t270 => ((ether_put.f k a0_1 6).bind fun t271 => (if t270.size + t271.size ≤ 9223372036854775807 then (if a0_2 = true then ((ether_put.f k 33024 2).bind fun t272 => ((ether_info.f a0_2 a0_3 a0_4 a0_5).bind fun t273 => ((ether_put.f k t273 2).bind fun t274 => (if t272.size + t274.size ≤ 9223372036854775807 then (if (t270 ++ t271).size + (t272 ++ t274).size ≤ 9223372036854775807 then (if a0_6 = 0 then ((ether_put.f k (IntKind.u64.wrap ((a0_7.size : Int))) 2).bind fun t275 => (if ((t270 ++ t271) ++ (t272 ++ t274)).size + t275.size ≤ 9223372036854775807 then (if (((t270 ++ t271) ++ (t272 ++ t274)) ++ t275).size + a0_7.size ≤ 9223372036854775807 then (some ((((t270 ++ t271) ++ (t272 ++ t274)) ++ t275) ++ a0_7, 0)) else (none)) else (none))) else ((ether_put.f k (IntKind.u64.wrap (a0_6)) 2).bind fun t276 => (if ((t270 ++ t271) ++ (t272 ++ t274)).size + t276.size ≤ 9223372036854775807 then (if (((t270 ++ t271) ++ (t272 ++ t274)) ++ t276).size + a0_7.size ≤ 9223372036854775807 then (some ((((t270 ++ t271) ++ (t272 ++ t274)) ++ t276) ++ a0_7, 0)) else (none)) else (none)))) else (none)) else (none))))) else (if a0_6 = 0 then ((ether_put.f k (IntKind.u64.wrap ((a0_7.size : Int))) 2).bind fun t277 => (if (t270 ++ t271).size + t277.size ≤ 9223372036854775807 then (if ((t270 ++ t271) ++ t277).size + a0_7.size ≤ 9223372036854775807 then (some (((t270 ++ t271) ++ t277) ++ a0_7, 0)) else (none)) else (none))) else ((ether_put.f k (IntKind.u64.wrap (a0_6)) 2).bind fun t278 => (if (t270 ++ t271).size + t278.size ≤ 9223372036854775807 then (if ((t270 ++ t271) ++ t278).size + a0_7.size ≤ 9223372036854775807 then (some (((t270 ++ t271) ++ t278) ++ a0_7, 0)) else (none)) else (none))))) else (none)))) else (some ((⟨#[]⟩ : ByteArray), t269)))
theorem ether_Build.mono : ∀ a0 a1 a2 a3 a4 a5 a6 a7 k, LeO (ether_Build.f k a0 a1 a2 a3 a4 a5 a6 a7) (ether_Build.f (k + 1) a0 a1 a2 a3 a4 a5 a6 a7) := by
  intro a0 a1 a2 a3 a4 a5 a6 a7 k
  unfold ether_Build.f
  repeat' first
      | (with_reducible exact ether_Check.mono _ _ _ _ _ _ _ _ _)
      | (with_reducible exact ether_put.mono _ _ _)
      | (with_reducible exact LeO.refl _)
      | (with_reducible exact LeO.none _)
      | (with_reducible refine LeO.ite ?_ ?_)
      | (with_reducible refine LeO.bind ?_ (fun _ => ?_))
      | exact ether_Check.mono _ _ _ _ _ _ _ _ _
      | exact ether_put.mono _ _ _
      | exact LeO.none _
      | refine LeO.ite ?_ ?_
      | refine LeO.bind ?_ (fun _ => ?_)
def ether_Build.T4 : Bool × List (List Nat × List Nat) := (true, [([], []), ([0], [0]), ([1], [1]), ([], []), ([3], [3]), ([4, 2], [4]), ([2, 5], [2, 5]), ([6, 5, 0, 1, 2, 3, 4, 5, 6], [6])])
def ether_Build.B4 : List Nat := [0, 1, 3, 0, 8, 31, 63, 127]
theorem ether_Build.tab4 : rtab .any (opsOf Tryd.f18 4) = ether_Build.T4 := by kernel_rfl
theorem ether_Build.bits4 : waitsOk ether_Build.T4.2 ether_Build.B4 = true := by kernel_rfl
def ether_Build.T6 : Bool × List (List Nat × List Nat) := (true, [([], []), ([], []), ([], []), ([2], [2]), ([3, 1], [3]), ([4, 4], [4]), ([1, 5], [1, 5]), ([0, 6], [0, 6]), ([7, 5, 0, 1, 2, 3, 4, 5, 6, 7], [0, 7])])
def ether_Build.B6 : List Nat := [0, 0, 0, 4, 14, 30, 62, 127, 255]
theorem ether_Build.tab6 : rtab .any (opsOf Tryd.f18 6) = ether_Build.T6 := by kernel_rfl
theorem ether_Build.bits6 : waitsOk ether_Build.T6.2 ether_Build.B6 = true := by kernel_rfl
def ether_Build.T10 : Bool × List (List Nat × List Nat) := (true, [([], []), ([], []), ([1], [1]), ([2], [2]), ([0, 3], [0, 3]), ([], []), ([5], [5]), ([4, 6], [4, 6]), ([7, 3, 0, 1, 2, 3, 4, 5, 6, 7], [7]), ([8, 0, 1, 2, 3, 4, 5, 6, 7, 8], [])])
def ether_Build.B10 : List Nat := [0, 0, 2, 6, 15, 0, 32, 127, 255, 511]
theorem ether_Build.tab10 : rtab .any (opsOf Tryd.f18 10) = ether_Build.T10 := by kernel_rfl
theorem ether_Build.bits10 : waitsOk ether_Build.T10.2 ether_Build.B10 = true := by kernel_rfl
set_option maxHeartbeats 8000000 in
set_option maxRecDepth 100000 in
theorem ether_Build.calls (k : Nat) (a0_0 : Int) (a0_1 : Int) (a0_2 : Bool) (a0_3 : Int) (a0_4 : Bool) (a0_5 : Int) (a0_6 : Int) (a0_7 : ByteArray) (r1 : ByteArray) (r2 : Int) (w : World) (h : ether_Build.f k a0_0 a0_1 a0_2 a0_3 a0_4 a0_5 a0_6 a0_7 = some (r1, r2)) :
    Calls Tryd.prog 18 #[.agg #[.int .u64 a0_0, .int .u64 a0_1, .bool a0_2, .int .i64 a0_3, .bool a0_4, .int .i64 a0_5, .int .i64 a0_6, .string a0_7]] w fun e w' => e = .returned (.tuple #[.string r1, .int .i64 r2]) ∧ Below w.heap.size w w' := by
  have hu40 := Tryd.underlying40
  have hu38 := Tryd.underlying38
  have HB := Aside0.mk (Below.refl w.heap.size w)
  have H : ((ether_Check.f k a0_0 a0_1 a0_2 a0_3 a0_4 a0_5 a0_6 a0_7).bind fun t269 => (if t269 = 0 then ((ether_put.f k a0_0 6).bind fun t270 => ((ether_put.f k a0_1 6).bind fun t271 => (if t270.size + t271.size ≤ 9223372036854775807 then (if a0_2 = true then ((ether_put.f k 33024 2).bind fun t272 => ((ether_info.f a0_2 a0_3 a0_4 a0_5).bind fun t273 => ((ether_put.f k t273 2).bind fun t274 => (if t272.size + t274.size ≤ 9223372036854775807 then (if (t270 ++ t271).size + (t272 ++ t274).size ≤ 9223372036854775807 then (if a0_6 = 0 then ((ether_put.f k (IntKind.u64.wrap ((a0_7.size : Int))) 2).bind fun t275 => (if ((t270 ++ t271) ++ (t272 ++ t274)).size + t275.size ≤ 9223372036854775807 then (if (((t270 ++ t271) ++ (t272 ++ t274)) ++ t275).size + a0_7.size ≤ 9223372036854775807 then (some ((((t270 ++ t271) ++ (t272 ++ t274)) ++ t275) ++ a0_7, 0)) else (none)) else (none))) else ((ether_put.f k (IntKind.u64.wrap (a0_6)) 2).bind fun t276 => (if ((t270 ++ t271) ++ (t272 ++ t274)).size + t276.size ≤ 9223372036854775807 then (if (((t270 ++ t271) ++ (t272 ++ t274)) ++ t276).size + a0_7.size ≤ 9223372036854775807 then (some ((((t270 ++ t271) ++ (t272 ++ t274)) ++ t276) ++ a0_7, 0)) else (none)) else (none)))) else (none)) else (none))))) else (if a0_6 = 0 then ((ether_put.f k (IntKind.u64.wrap ((a0_7.size : Int))) 2).bind fun t277 => (if (t270 ++ t271).size + t277.size ≤ 9223372036854775807 then (if ((t270 ++ t271) ++ t277).size + a0_7.size ≤ 9223372036854775807 then (some (((t270 ++ t271) ++ t277) ++ a0_7, 0)) else (none)) else (none))) else ((ether_put.f k (IntKind.u64.wrap (a0_6)) 2).bind fun t278 => (if (t270 ++ t271).size + t278.size ≤ 9223372036854775807 then (if ((t270 ++ t271) ++ t278).size + a0_7.size ≤ 9223372036854775807 then (some (((t270 ++ t271) ++ t278) ++ a0_7, 0)) else (none)) else (none))))) else (none)))) else (some ((⟨#[]⟩ : ByteArray), t269)))) = some (r1, r2) := h
  clear h
  replace H := Option.bind_eq_some_iff.mp H
  obtain ⟨t269, A20, H⟩ := H
  replace H : (if t269 = 0 then ((ether_put.f k a0_0 6).bind fun t270 => ((ether_put.f k a0_1 6).bind fun t271 => (if t270.size + t271.size ≤ 9223372036854775807 then (if a0_2 = true then ((ether_put.f k 33024 2).bind fun t272 => ((ether_info.f a0_2 a0_3 a0_4 a0_5).bind fun t273 => ((ether_put.f k t273 2).bind fun t274 => (if t272.size + t274.size ≤ 9223372036854775807 then (if (t270 ++ t271).size + (t272 ++ t274).size ≤ 9223372036854775807 then (if a0_6 = 0 then ((ether_put.f k (IntKind.u64.wrap ((a0_7.size : Int))) 2).bind fun t275 => (if ((t270 ++ t271) ++ (t272 ++ t274)).size + t275.size ≤ 9223372036854775807 then (if (((t270 ++ t271) ++ (t272 ++ t274)) ++ t275).size + a0_7.size ≤ 9223372036854775807 then (some ((((t270 ++ t271) ++ (t272 ++ t274)) ++ t275) ++ a0_7, 0)) else (none)) else (none))) else ((ether_put.f k (IntKind.u64.wrap (a0_6)) 2).bind fun t276 => (if ((t270 ++ t271) ++ (t272 ++ t274)).size + t276.size ≤ 9223372036854775807 then (if (((t270 ++ t271) ++ (t272 ++ t274)) ++ t276).size + a0_7.size ≤ 9223372036854775807 then (some ((((t270 ++ t271) ++ (t272 ++ t274)) ++ t276) ++ a0_7, 0)) else (none)) else (none)))) else (none)) else (none))))) else (if a0_6 = 0 then ((ether_put.f k (IntKind.u64.wrap ((a0_7.size : Int))) 2).bind fun t277 => (if (t270 ++ t271).size + t277.size ≤ 9223372036854775807 then (if ((t270 ++ t271) ++ t277).size + a0_7.size ≤ 9223372036854775807 then (some (((t270 ++ t271) ++ t277) ++ a0_7, 0)) else (none)) else (none))) else ((ether_put.f k (IntKind.u64.wrap (a0_6)) 2).bind fun t278 => (if (t270 ++ t271).size + t278.size ≤ 9223372036854775807 then (if ((t270 ++ t271) ++ t278).size + a0_7.size ≤ 9223372036854775807 then (some (((t270 ++ t271) ++ t278) ++ a0_7, 0)) else (none)) else (none))))) else (none)))) else (some ((⟨#[]⟩ : ByteArray), t269))) = some (r1, r2) := H
  have A2 := Aside0.mk A20
  clear A20
  by_cases c3 : t269 = 0
  · rw [if_pos c3] at H
    have c3b0 : (t269 == 0) = true := beq_iff_eq.mpr c3
    have c3b1 : (t269 != 0) = false := bne_eq_false_iff_eq.mpr c3
    clear c3
    replace H := Option.bind_eq_some_iff.mp H
    obtain ⟨t270, A40, H⟩ := H
    replace H : ((ether_put.f k a0_1 6).bind fun t271 => (if t270.size + t271.size ≤ 9223372036854775807 then (if a0_2 = true then ((ether_put.f k 33024 2).bind fun t272 => ((ether_info.f a0_2 a0_3 a0_4 a0_5).bind fun t273 => ((ether_put.f k t273 2).bind fun t274 => (if t272.size + t274.size ≤ 9223372036854775807 then (if (t270 ++ t271).size + (t272 ++ t274).size ≤ 9223372036854775807 then (if a0_6 = 0 then ((ether_put.f k (IntKind.u64.wrap ((a0_7.size : Int))) 2).bind fun t275 => (if ((t270 ++ t271) ++ (t272 ++ t274)).size + t275.size ≤ 9223372036854775807 then (if (((t270 ++ t271) ++ (t272 ++ t274)) ++ t275).size + a0_7.size ≤ 9223372036854775807 then (some ((((t270 ++ t271) ++ (t272 ++ t274)) ++ t275) ++ a0_7, 0)) else (none)) else (none))) else ((ether_put.f k (IntKind.u64.wrap (a0_6)) 2).bind fun t276 => (if ((t270 ++ t271) ++ (t272 ++ t274)).size + t276.size ≤ 9223372036854775807 then (if (((t270 ++ t271) ++ (t272 ++ t274)) ++ t276).size + a0_7.size ≤ 9223372036854775807 then (some ((((t270 ++ t271) ++ (t272 ++ t274)) ++ t276) ++ a0_7, 0)) else (none)) else (none)))) else (none)) else (none))))) else (if a0_6 = 0 then ((ether_put.f k (IntKind.u64.wrap ((a0_7.size : Int))) 2).bind fun t277 => (if (t270 ++ t271).size + t277.size ≤ 9223372036854775807 then (if ((t270 ++ t271) ++ t277).size + a0_7.size ≤ 9223372036854775807 then (some (((t270 ++ t271) ++ t277) ++ a0_7, 0)) else (none)) else (none))) else ((ether_put.f k (IntKind.u64.wrap (a0_6)) 2).bind fun t278 => (if (t270 ++ t271).size + t278.size ≤ 9223372036854775807 then (if ((t270 ++ t271) ++ t278).size + a0_7.size ≤ 9223372036854775807 then (some (((t270 ++ t271) ++ t278) ++ a0_7, 0)) else (none)) else (none))))) else (none))) = some (r1, r2) := H
    have A4 := Aside0.mk A40
    clear A40
    replace H := Option.bind_eq_some_iff.mp H
    obtain ⟨t271, A50, H⟩ := H
    replace H : (if t270.size + t271.size ≤ 9223372036854775807 then (if a0_2 = true then ((ether_put.f k 33024 2).bind fun t272 => ((ether_info.f a0_2 a0_3 a0_4 a0_5).bind fun t273 => ((ether_put.f k t273 2).bind fun t274 => (if t272.size + t274.size ≤ 9223372036854775807 then (if (t270 ++ t271).size + (t272 ++ t274).size ≤ 9223372036854775807 then (if a0_6 = 0 then ((ether_put.f k (IntKind.u64.wrap ((a0_7.size : Int))) 2).bind fun t275 => (if ((t270 ++ t271) ++ (t272 ++ t274)).size + t275.size ≤ 9223372036854775807 then (if (((t270 ++ t271) ++ (t272 ++ t274)) ++ t275).size + a0_7.size ≤ 9223372036854775807 then (some ((((t270 ++ t271) ++ (t272 ++ t274)) ++ t275) ++ a0_7, 0)) else (none)) else (none))) else ((ether_put.f k (IntKind.u64.wrap (a0_6)) 2).bind fun t276 => (if ((t270 ++ t271) ++ (t272 ++ t274)).size + t276.size ≤ 9223372036854775807 then (if (((t270 ++ t271) ++ (t272 ++ t274)) ++ t276).size + a0_7.size ≤ 9223372036854775807 then (some ((((t270 ++ t271) ++ (t272 ++ t274)) ++ t276) ++ a0_7, 0)) else (none)) else (none)))) else (none)) else (none))))) else (if a0_6 = 0 then ((ether_put.f k (IntKind.u64.wrap ((a0_7.size : Int))) 2).bind fun t277 => (if (t270 ++ t271).size + t277.size ≤ 9223372036854775807 then (if ((t270 ++ t271) ++ t277).size + a0_7.size ≤ 9223372036854775807 then (some (((t270 ++ t271) ++ t277) ++ a0_7, 0)) else (none)) else (none))) else ((ether_put.f k (IntKind.u64.wrap (a0_6)) 2).bind fun t278 => (if (t270 ++ t271).size + t278.size ≤ 9223372036854775807 then (if ((t270 ++ t271) ++ t278).size + a0_7.size ≤ 9223372036854775807 then (some (((t270 ++ t271) ++ t278) ++ a0_7, 0)) else (none)) else (none))))) else (none)) = some (r1, r2) := H
    have A5 := Aside0.mk A50
    clear A50
    by_cases c6 : t270.size + t271.size ≤ 9223372036854775807
    · rw [if_pos c6] at H
      have c6b0 := eq_true c6
      have c6b1 : decide (t270.size + t271.size ≤ 9223372036854775807) = true := decide_eq_true c6
      try have c6b2 : (9223372036854775807 < t270.size + t271.size) = False := eq_false (Nat.not_lt.2 c6)
      by_cases c7 : a0_2 = true
      · subst c7
        have H1 : ((ether_put.f k 33024 2).bind fun t272 => ((ether_info.f true a0_3 a0_4 a0_5).bind fun t273 => ((ether_put.f k t273 2).bind fun t274 => (if t272.size + t274.size ≤ 9223372036854775807 then (if (t270 ++ t271).size + (t272 ++ t274).size ≤ 9223372036854775807 then (if a0_6 = 0 then ((ether_put.f k (IntKind.u64.wrap ((a0_7.size : Int))) 2).bind fun t275 => (if ((t270 ++ t271) ++ (t272 ++ t274)).size + t275.size ≤ 9223372036854775807 then (if (((t270 ++ t271) ++ (t272 ++ t274)) ++ t275).size + a0_7.size ≤ 9223372036854775807 then (some ((((t270 ++ t271) ++ (t272 ++ t274)) ++ t275) ++ a0_7, 0)) else (none)) else (none))) else ((ether_put.f k (IntKind.u64.wrap (a0_6)) 2).bind fun t276 => (if ((t270 ++ t271) ++ (t272 ++ t274)).size + t276.size ≤ 9223372036854775807 then (if (((t270 ++ t271) ++ (t272 ++ t274)) ++ t276).size + a0_7.size ≤ 9223372036854775807 then (some ((((t270 ++ t271) ++ (t272 ++ t274)) ++ t276) ++ a0_7, 0)) else (none)) else (none)))) else (none)) else (none))))) = some (r1, r2) := by rw [if_pos rfl] at H; exact H
        clear H
        have H := H1
        clear H1
        replace H := Option.bind_eq_some_iff.mp H
        obtain ⟨t272, A80, H⟩ := H
        replace H : ((ether_info.f true a0_3 a0_4 a0_5).bind fun t273 => ((ether_put.f k t273 2).bind fun t274 => (if t272.size + t274.size ≤ 9223372036854775807 then (if (t270 ++ t271).size + (t272 ++ t274).size ≤ 9223372036854775807 then (if a0_6 = 0 then ((ether_put.f k (IntKind.u64.wrap ((a0_7.size : Int))) 2).bind fun t275 => (if ((t270 ++ t271) ++ (t272 ++ t274)).size + t275.size ≤ 9223372036854775807 then (if (((t270 ++ t271) ++ (t272 ++ t274)) ++ t275).size + a0_7.size ≤ 9223372036854775807 then (some ((((t270 ++ t271) ++ (t272 ++ t274)) ++ t275) ++ a0_7, 0)) else (none)) else (none))) else ((ether_put.f k (IntKind.u64.wrap (a0_6)) 2).bind fun t276 => (if ((t270 ++ t271) ++ (t272 ++ t274)).size + t276.size ≤ 9223372036854775807 then (if (((t270 ++ t271) ++ (t272 ++ t274)) ++ t276).size + a0_7.size ≤ 9223372036854775807 then (some ((((t270 ++ t271) ++ (t272 ++ t274)) ++ t276) ++ a0_7, 0)) else (none)) else (none)))) else (none)) else (none)))) = some (r1, r2) := H
        have A8 := Aside0.mk A80
        clear A80
        replace H := Option.bind_eq_some_iff.mp H
        obtain ⟨t273, A90, H⟩ := H
        replace H : ((ether_put.f k t273 2).bind fun t274 => (if t272.size + t274.size ≤ 9223372036854775807 then (if (t270 ++ t271).size + (t272 ++ t274).size ≤ 9223372036854775807 then (if a0_6 = 0 then ((ether_put.f k (IntKind.u64.wrap ((a0_7.size : Int))) 2).bind fun t275 => (if ((t270 ++ t271) ++ (t272 ++ t274)).size + t275.size ≤ 9223372036854775807 then (if (((t270 ++ t271) ++ (t272 ++ t274)) ++ t275).size + a0_7.size ≤ 9223372036854775807 then (some ((((t270 ++ t271) ++ (t272 ++ t274)) ++ t275) ++ a0_7, 0)) else (none)) else (none))) else ((ether_put.f k (IntKind.u64.wrap (a0_6)) 2).bind fun t276 => (if ((t270 ++ t271) ++ (t272 ++ t274)).size + t276.size ≤ 9223372036854775807 then (if (((t270 ++ t271) ++ (t272 ++ t274)) ++ t276).size + a0_7.size ≤ 9223372036854775807 then (some ((((t270 ++ t271) ++ (t272 ++ t274)) ++ t276) ++ a0_7, 0)) else (none)) else (none)))) else (none)) else (none))) = some (r1, r2) := H
        have A9 := Aside0.mk A90
        clear A90
        replace H := Option.bind_eq_some_iff.mp H
        obtain ⟨t274, A100, H⟩ := H
        replace H : (if t272.size + t274.size ≤ 9223372036854775807 then (if (t270 ++ t271).size + (t272 ++ t274).size ≤ 9223372036854775807 then (if a0_6 = 0 then ((ether_put.f k (IntKind.u64.wrap ((a0_7.size : Int))) 2).bind fun t275 => (if ((t270 ++ t271) ++ (t272 ++ t274)).size + t275.size ≤ 9223372036854775807 then (if (((t270 ++ t271) ++ (t272 ++ t274)) ++ t275).size + a0_7.size ≤ 9223372036854775807 then (some ((((t270 ++ t271) ++ (t272 ++ t274)) ++ t275) ++ a0_7, 0)) else (none)) else (none))) else ((ether_put.f k (IntKind.u64.wrap (a0_6)) 2).bind fun t276 => (if ((t270 ++ t271) ++ (t272 ++ t274)).size + t276.size ≤ 9223372036854775807 then (if (((t270 ++ t271) ++ (t272 ++ t274)) ++ t276).size + a0_7.size ≤ 9223372036854775807 then (some ((((t270 ++ t271) ++ (t272 ++ t274)) ++ t276) ++ a0_7, 0)) else (none)) else (none)))) else (none)) else (none)) = some (r1, r2) := H
        have A10 := Aside0.mk A100
        clear A100
        by_cases c11 : t272.size + t274.size ≤ 9223372036854775807
        · rw [if_pos c11] at H
          have c11b0 := eq_true c11
          have c11b1 : decide (t272.size + t274.size ≤ 9223372036854775807) = true := decide_eq_true c11
          try have c11b2 : (9223372036854775807 < t272.size + t274.size) = False := eq_false (Nat.not_lt.2 c11)
          by_cases c12 : (t270 ++ t271).size + (t272 ++ t274).size ≤ 9223372036854775807
          · rw [if_pos c12] at H
            have c12b0 := eq_true c12
            have c12b1 : decide ((t270 ++ t271).size + (t272 ++ t274).size ≤ 9223372036854775807) = true := decide_eq_true c12
            have c12z := c12
            simp only [ByteArray.size_append] at c12z
            have c12z1 := eq_true c12z
            have c12z2 := eq_false (Nat.not_lt.2 c12z)
            try have c12b2 : (9223372036854775807 < (t270 ++ t271).size + (t272 ++ t274).size) = False := eq_false (Nat.not_lt.2 c12)
            by_cases c13 : a0_6 = 0
            · rw [if_pos c13] at H
              have c13b0 : (a0_6 == 0) = true := beq_iff_eq.mpr c13
              have c13b1 : (a0_6 != 0) = false := bne_eq_false_iff_eq.mpr c13
              clear c13
              replace H := Option.bind_eq_some_iff.mp H
              obtain ⟨t275, A140, H⟩ := H
              replace H : (if ((t270 ++ t271) ++ (t272 ++ t274)).size + t275.size ≤ 9223372036854775807 then (if (((t270 ++ t271) ++ (t272 ++ t274)) ++ t275).size + a0_7.size ≤ 9223372036854775807 then (some ((((t270 ++ t271) ++ (t272 ++ t274)) ++ t275) ++ a0_7, 0)) else (none)) else (none)) = some (r1, r2) := H
              have A14 := Aside0.mk A140
              clear A140
              by_cases c15 : ((t270 ++ t271) ++ (t272 ++ t274)).size + t275.size ≤ 9223372036854775807
              · rw [if_pos c15] at H
                have c15b0 := eq_true c15
                have c15b1 : decide (((t270 ++ t271) ++ (t272 ++ t274)).size + t275.size ≤ 9223372036854775807) = true := decide_eq_true c15
                have c15z := c15
                simp only [ByteArray.size_append] at c15z
                have c15z1 := eq_true c15z
                have c15z2 := eq_false (Nat.not_lt.2 c15z)
                try have c15b2 : (9223372036854775807 < ((t270 ++ t271) ++ (t272 ++ t274)).size + t275.size) = False := eq_false (Nat.not_lt.2 c15)
                by_cases c16 : (((t270 ++ t271) ++ (t272 ++ t274)) ++ t275).size + a0_7.size ≤ 9223372036854775807
                · rw [if_pos c16] at H
                  have c16b0 := eq_true c16
                  have c16b1 : decide ((((t270 ++ t271) ++ (t272 ++ t274)) ++ t275).size + a0_7.size ≤ 9223372036854775807) = true := decide_eq_true c16
                  have c16z := c16
                  simp only [ByteArray.size_append] at c16z
                  have c16z1 := eq_true c16z
                  have c16z2 := eq_false (Nat.not_lt.2 c16z)
                  try have c16b2 : (9223372036854775807 < (((t270 ++ t271) ++ (t272 ++ t274)) ++ t275).size + a0_7.size) = False := eq_false (Nat.not_lt.2 c16)
                  simp only [Option.some.injEq, Prod.mk.injEq] at H
                  obtain ⟨rfl, rfl⟩ := H
                  go_enter Tryd.func18, Tryd.ntmps18
                  try go_wp2_with (first | ((with_reducible refine gate_dst (N := 1) rfl ?_); refine box_event ?hg (N := 1) ?hd (cs := #[.int .u64 a0_0, .int .u64 a0_1, .bool true, .int .i64 a0_3, .bool a0_4, .int .i64 a0_5, .int .i64 a0_6, .string a0_7]) (t := 40) ?hr ?_; (case hd => rfl); (case hg => rfl); (case hr => first | (go_simp; done) | (go_simp; rfl)); intro gb268 hg w17 hbox hb; have n0_ := Aside0.mk (below_step (by repeat (first | (with_reducible first | exact HB.out | apply below_alloc | apply pw_below_drewN | apply below_drew1) | exact HB.out)) hb); have n1_ := Aside0.mk (hbox); have n2_ := Aside0.mk ((by rw [hg]; exact (below_size (by repeat (first | (with_reducible first | exact HB.out | apply below_alloc | apply pw_below_drewN | apply below_drew1) | exact HB.out))) : w.heap.size ≤ gb268)); have n3_ := Aside0.mk ((by rw [hg]; exact (below_size (by repeat (first | (with_reducible first | exact HB.out | apply below_alloc | apply pw_below_drewN | apply below_drew1) | exact HB.out))) : w.heap.size ≤ gb268)); clear HB; have HB := n0_; have BK268 := n1_; have GW268 := n2_; have GE268 := n3_; clear n0_ n1_ n2_ n3_; clear hb hbox hg; have hcz18_0 : w17.cell? ⟨gb268, 0, none⟩ = some (.int .u64 a0_0) := (blk_cell BK268.out 0).trans rfl; have hcz18_1 : w17.cell? ⟨gb268, 1, none⟩ = some (.int .u64 a0_1) := (blk_cell BK268.out 1).trans rfl; have hcz18_2 : w17.cell? ⟨gb268, 2, none⟩ = some (.bool true) := (blk_cell BK268.out 2).trans rfl; have hcz18_3 : w17.cell? ⟨gb268, 3, none⟩ = some (.int .i64 a0_3) := (blk_cell BK268.out 3).trans rfl; have hcz18_4 : w17.cell? ⟨gb268, 4, none⟩ = some (.bool a0_4) := (blk_cell BK268.out 4).trans rfl; have hcz18_5 : w17.cell? ⟨gb268, 5, none⟩ = some (.int .i64 a0_5) := (blk_cell BK268.out 5).trans rfl; have hcz18_6 : w17.cell? ⟨gb268, 6, none⟩ = some (.int .i64 a0_6) := (blk_cell BK268.out 6).trans rfl; have hcz18_7 : w17.cell? ⟨gb268, 7, none⟩ = some (.string a0_7) := (blk_cell BK268.out 7).trans rfl; have hfz18_0 := blk_frozen BK268.out 0; have hfz18_1 := blk_frozen BK268.out 1; have hfz18_2 := blk_frozen BK268.out 2; have hfz18_3 := blk_frozen BK268.out 3; have hfz18_4 := blk_frozen BK268.out 4; have hfz18_5 := blk_frozen BK268.out 5; have hfz18_6 := blk_frozen BK268.out 6; have hfz18_7 := blk_frozen BK268.out 7) | ((with_reducible refine gate_callee (f := 27) rfl ?_); refine goesL_ (some 8) rfl rfl Tryd.func27 (by kernel_rfl) rfl #[.agg #[.int .u64 a0_0, .int .u64 a0_1, .bool true, .int .i64 a0_3, .bool a0_4, .int .i64 a0_5, .int .i64 a0_6, .string a0_7]] rfl (by (try simp only [List.map_toArray, List.map_cons, List.map_nil]); first | done | rfl | (simp only [List.length_drop, List.length_take]; rfl)) ?_; (with_reducible refine (ether_Check.calls k a0_0 a0_1 true a0_3 a0_4 a0_5 a0_6 a0_7 t269 _ A2.out).mono ?_); rintro e w19 ⟨rfl, hb⟩; refine ⟨_, rfl, ?_⟩; have n0_ := Aside0.mk (blk_below (g := gb268) (o := .cells #[.int .u64 a0_0, .int .u64 a0_1, .bool true, .int .i64 a0_3, .bool a0_4, .int .i64 a0_5, .int .i64 a0_6, .string a0_7] 40 (0, 0)) (by (with_reducible repeat (first | refine blk_drewN ?_ _ | refine blk_drew ?_ | refine blk_alloc ?_ _)); exact BK268.out) hb); have n1_ := Aside0.mk (below_step (by repeat (first | (with_reducible first | exact HB.out | apply below_alloc | apply pw_below_drewN | apply below_drew1 | refine below_set ?_ GE268.out) | exact HB.out)) hb); clear BK268; clear HB; have BK268 := n0_; have HB := n1_; clear n0_ n1_; have hcy1_268_0 := (show World.cell? _ ⟨gb268, 0, none⟩ = some (.int .u64 a0_0) from (blk_cell BK268.out 0).trans rfl); have hcy1_268_1 := (show World.cell? _ ⟨gb268, 1, none⟩ = some (.int .u64 a0_1) from (blk_cell BK268.out 1).trans rfl); have hcy1_268_2 := (show World.cell? _ ⟨gb268, 2, none⟩ = some (.bool true) from (blk_cell BK268.out 2).trans rfl); have hcy1_268_3 := (show World.cell? _ ⟨gb268, 3, none⟩ = some (.int .i64 a0_3) from (blk_cell BK268.out 3).trans rfl); have hcy1_268_4 := (show World.cell? _ ⟨gb268, 4, none⟩ = some (.bool a0_4) from (blk_cell BK268.out 4).trans rfl); have hcy1_268_5 := (show World.cell? _ ⟨gb268, 5, none⟩ = some (.int .i64 a0_5) from (blk_cell BK268.out 5).trans rfl); have hcy1_268_6 := (show World.cell? _ ⟨gb268, 6, none⟩ = some (.int .i64 a0_6) from (blk_cell BK268.out 6).trans rfl); have hcy1_268_7 := (show World.cell? _ ⟨gb268, 7, none⟩ = some (.string a0_7) from (blk_cell BK268.out 7).trans rfl); (try clear hb); (try clear hb2); (try clear hk); (try clear hi)))
                  have n0_ := Aside0.mk (blk_drew BK268.out)
                  have n1_ := Aside0.mk (below_drew1 HB.out)
                  clear BK268
                  clear HB
                  have BK268 := n0_
                  have HB := n1_
                  clear n0_ n1_
                  refine start_ (n := 8) (S := fun w' => w'.cell? ⟨gb268, 0, none⟩ = some (.int .u64 a0_0) ∧ w'.cell? ⟨gb268, 1, none⟩ = some (.int .u64 a0_1) ∧ w'.cell? ⟨gb268, 2, none⟩ = some (.bool true) ∧ w'.cell? ⟨gb268, 3, none⟩ = some (.int .i64 a0_3) ∧ w'.cell? ⟨gb268, 4, none⟩ = some (.bool a0_4) ∧ w'.cell? ⟨gb268, 5, none⟩ = some (.int .i64 a0_5) ∧ w'.cell? ⟨gb268, 6, none⟩ = some (.int .i64 a0_6) ∧ w'.cell? ⟨gb268, 7, none⟩ = some (.string a0_7)) (ds := []) #[false, false, false, false, false, false, false, false] (by kernel_rfl) rfl rfl ⟨(blk_cell BK268.out 0).trans rfl, (blk_cell BK268.out 1).trans rfl, (blk_cell BK268.out 2).trans rfl, (blk_cell BK268.out 3).trans rfl, (blk_cell BK268.out 4).trans rfl, (blk_cell BK268.out 5).trans rfl, (blk_cell BK268.out 6).trans rfl, (blk_cell BK268.out 7).trans rfl⟩ (fun hHeld => ?_); refine with_tabW ether_Build.tab4 ether_Build.bits4 (fun HT_ HW_ => ?_)
                  generalize w19.drew = w20 at BK268 HB hHeld ⊢
                  refine pure_ (i := 0) (N := some 12) (v := ?_) (a' := ?_) #[true, false, false, false, false, false, false, false] rfl rfl (any_of HT_.out (by kernel_rfl)) (fun _ _ _ h => h) (Or.inl ⟨by rfl, ?_⟩) ?_ ?_
                  rotate_left
                  · intro w'
                    go_simp
                    first | with_reducible rfl | (rw [if_neg (by have hz0_ : (⟨#[]⟩ : ByteArray).size = 0 := rfl; (try simp only [decide_eq_true_eq, ByteArray.size_append, ByteArray.size_extract, eq_iff_iff, iff_true, iff_false, Nat.not_lt] at *); omega)]; try with_reducible rfl)
                  rotate_left
                  · simp only [Act.put, List.setIfInBounds_toArray, List.set_cons_zero, List.set_cons_succ, i64_w, i32_w]
                    rfl
                  refine pure_ (i := 3) (N := some 15) (v := ?_) (a' := ?_) #[true, false, false, true, false, false, false, false] rfl rfl (any_of HT_.out (by kernel_rfl)) (fun _ _ _ h => h) (Or.inl ⟨by rfl, ?_⟩) ?_ ?_
                  rotate_left
                  · intro w'
                    go_simp
                    first | with_reducible rfl | (rw [if_neg (by have hz0_ : (⟨#[]⟩ : ByteArray).size = 0 := rfl; (try simp only [decide_eq_true_eq, ByteArray.size_append, ByteArray.size_extract, eq_iff_iff, iff_true, iff_false, Nat.not_lt] at *); omega)]; try with_reducible rfl)
                  rotate_left
                  · simp only [Act.put, List.setIfInBounds_toArray, List.set_cons_zero, List.set_cons_succ, i64_w, i32_w]
                    rfl
                  refine take_ (i := 1) (N := some 13) (v := ?_) (a' := ?_) #[true, true, false, true, false, false, false, false] rfl rfl (take_ofW HT_.out HW_.out (by kernel_rfl)) (fun _ _ _ h => h) (Or.inl ⟨by rfl, ?_⟩) hHeld ?_ ?_
                  rotate_left
                  · rintro w' ⟨s0, s1, s2, s3, s4, s5, s6, s7⟩
                    go_simp
                    with_reducible rfl
                  rotate_left
                  · simp only [Act.put, List.setIfInBounds_toArray, List.set_cons_zero, List.set_cons_succ, i64_w, i32_w]
                    rfl
                  refine take_ (i := 4) (N := some 16) (v := ?_) (a' := ?_) #[true, true, false, true, true, false, false, false] rfl rfl (take_ofW HT_.out HW_.out (by kernel_rfl)) (fun _ _ _ h => h) (Or.inl ⟨by rfl, ?_⟩) hHeld ?_ ?_
                  rotate_left
                  · rintro w' ⟨s0, s1, s2, s3, s4, s5, s6, s7⟩
                    go_simp
                    with_reducible rfl
                  rotate_left
                  · simp only [Act.put, List.setIfInBounds_toArray, List.set_cons_zero, List.set_cons_succ, i64_w, i32_w]
                    rfl
                  refine one_ (i := 2) (N := some 14) #[true, true, true, true, true, false, false, false] rfl rfl (one_of HT_.out (by kernel_rfl)) (by decide) (fun K hK => ?_)
                  refine goes_ Tryd.func28 (by kernel_rfl) rfl #[.int .u64 a0_0, .int .i64 6] (by first | rfl | exact wanted_on rfl rfl rfl (by first | rfl | (simp [*]; done) | (simp [*, IntKind.wrap_u32]; done))) rfl rfl (by (try simp only [List.map_toArray, List.map_cons, List.map_nil]); first | done | rfl | (simp only [List.length_drop, List.length_take]; rfl)) ?_
                  with_reducible refine (ether_put.calls k a0_0 6 t270 _ A4.out).mono ?_
                  rintro e w21 ⟨rfl, hb⟩
                  refine ⟨_, rfl, ?_⟩
                  have n0_ := Aside0.mk (blk_below (g := gb268) (o := .cells #[.int .u64 a0_0, .int .u64 a0_1, .bool true, .int .i64 a0_3, .bool a0_4, .int .i64 a0_5, .int .i64 a0_6, .string a0_7] 40 (0, 0)) (by (with_reducible repeat (first | refine blk_drewN ?_ _ | refine blk_drew ?_ | refine blk_alloc ?_ _)); exact BK268.out) hb)
                  have n1_ := Aside0.mk (below_step (by repeat (first | (with_reducible first | exact HB.out | apply below_alloc | apply pw_below_drewN | apply below_drew1 | refine below_set ?_ GE268.out) | exact HB.out)) hb)
                  clear BK268
                  clear HB
                  have BK268 := n0_
                  have HB := n1_
                  clear n0_ n1_
                  (try clear hb)
                  (try clear hb2)
                  (try clear hk)
                  (try clear hi)
                  refine hK.out _ _ ⟨(blk_cell BK268.out 0).trans rfl, (blk_cell BK268.out 1).trans rfl, (blk_cell BK268.out 2).trans rfl, (blk_cell BK268.out 3).trans rfl, (blk_cell BK268.out 4).trans rfl, (blk_cell BK268.out 5).trans rfl, (blk_cell BK268.out 6).trans rfl, (blk_cell BK268.out 7).trans rfl⟩ (fun hHeld => ?_)
                  clear hK K
                  refine norm_ (a' := ?_) ?_ ?_
                  rotate_left
                  · show Act.put _ (some 14) _ = _
                    simp only [Act.put, List.setIfInBounds_toArray, List.set_cons_zero, List.set_cons_succ, i64_w, i32_w]
                    rfl
                  refine one_ (i := 5) (N := some 17) #[true, true, true, true, true, true, false, false] rfl rfl (one_of HT_.out (by kernel_rfl)) (by decide) (fun K hK => ?_)
                  refine goes_ Tryd.func28 (by kernel_rfl) rfl #[.int .u64 a0_1, .int .i64 6] (by first | rfl | exact wanted_on rfl rfl rfl (by first | rfl | (simp [*]; done) | (simp [*, IntKind.wrap_u32]; done))) rfl rfl (by (try simp only [List.map_toArray, List.map_cons, List.map_nil]); first | done | rfl | (simp only [List.length_drop, List.length_take]; rfl)) ?_
                  with_reducible refine (ether_put.calls k a0_1 6 t271 _ A5.out).mono ?_
                  rintro e w22 ⟨rfl, hb⟩
                  refine ⟨_, rfl, ?_⟩
                  have n0_ := Aside0.mk (blk_below (g := gb268) (o := .cells #[.int .u64 a0_0, .int .u64 a0_1, .bool true, .int .i64 a0_3, .bool a0_4, .int .i64 a0_5, .int .i64 a0_6, .string a0_7] 40 (0, 0)) (by (with_reducible repeat (first | refine blk_drewN ?_ _ | refine blk_drew ?_ | refine blk_alloc ?_ _)); exact BK268.out) hb)
                  have n1_ := Aside0.mk (below_step (by repeat (first | (with_reducible first | exact HB.out | apply below_alloc | apply pw_below_drewN | apply below_drew1 | refine below_set ?_ GE268.out) | exact HB.out)) hb)
                  clear BK268
                  clear HB
                  have BK268 := n0_
                  have HB := n1_
                  clear n0_ n1_
                  (try clear hb)
                  (try clear hb2)
                  (try clear hk)
                  (try clear hi)
                  refine hK.out _ _ ⟨(blk_cell BK268.out 0).trans rfl, (blk_cell BK268.out 1).trans rfl, (blk_cell BK268.out 2).trans rfl, (blk_cell BK268.out 3).trans rfl, (blk_cell BK268.out 4).trans rfl, (blk_cell BK268.out 5).trans rfl, (blk_cell BK268.out 6).trans rfl, (blk_cell BK268.out 7).trans rfl⟩ (fun hHeld => ?_)
                  clear hK K
                  refine norm_ (a' := ?_) ?_ ?_
                  rotate_left
                  · show Act.put _ (some 17) _ = _
                    simp only [Act.put, List.setIfInBounds_toArray, List.set_cons_zero, List.set_cons_succ, i64_w, i32_w]
                    rfl
                  refine pure_ (i := 6) (N := some 18) (v := ?_) (a' := ?_) #[true, true, true, true, true, true, true, false] rfl rfl (any_of HT_.out (by kernel_rfl)) (fun _ _ _ h => h) (Or.inl ⟨by rfl, ?_⟩) ?_ ?_
                  rotate_left
                  · intro w'
                    go_simp
                    first | with_reducible rfl | (rw [if_neg (by have hz0_ : (⟨#[]⟩ : ByteArray).size = 0 := rfl; (try simp only [decide_eq_true_eq, ByteArray.size_append, ByteArray.size_extract, eq_iff_iff, iff_true, iff_false, Nat.not_lt] at *); omega)]; try with_reducible rfl)
                  rotate_left
                  · simp only [Act.put, List.setIfInBounds_toArray, List.set_cons_zero, List.set_cons_succ, i64_w, i32_w]
                    rfl
                  refine pure_ (i := 7) (N := some 5) (v := ?_) (a' := ?_) #[true, true, true, true, true, true, true, true] rfl rfl (any_of HT_.out (by kernel_rfl)) (fun _ _ _ h => h) (Or.inl ⟨by rfl, ?_⟩) ?_ ?_
                  rotate_left
                  · intro w'
                    go_simp
                    first | with_reducible rfl | (rw [if_neg (by have hz0_ : (⟨#[]⟩ : ByteArray).size = 0 := rfl; (try simp only [decide_eq_true_eq, ByteArray.size_append, ByteArray.size_extract, eq_iff_iff, iff_true, iff_false, Nat.not_lt] at *); omega)]; try with_reducible rfl)
                  rotate_left
                  · simp only [Act.put, List.setIfInBounds_toArray, List.set_cons_zero, List.set_cons_succ, i64_w, i32_w]
                    rfl
                  refine done_ (done_of HT_.out (by kernel_rfl)) ?_
                  have hcz23_0 : w22.cell? ⟨gb268, 0, none⟩ = some (.int .u64 a0_0) := (blk_cell BK268.out 0).trans rfl
                  have hcz23_1 : w22.cell? ⟨gb268, 1, none⟩ = some (.int .u64 a0_1) := (blk_cell BK268.out 1).trans rfl
                  have hcz23_2 : w22.cell? ⟨gb268, 2, none⟩ = some (.bool true) := (blk_cell BK268.out 2).trans rfl
                  have hcz23_3 : w22.cell? ⟨gb268, 3, none⟩ = some (.int .i64 a0_3) := (blk_cell BK268.out 3).trans rfl
                  have hcz23_4 : w22.cell? ⟨gb268, 4, none⟩ = some (.bool a0_4) := (blk_cell BK268.out 4).trans rfl
                  have hcz23_5 : w22.cell? ⟨gb268, 5, none⟩ = some (.int .i64 a0_5) := (blk_cell BK268.out 5).trans rfl
                  have hcz23_6 : w22.cell? ⟨gb268, 6, none⟩ = some (.int .i64 a0_6) := (blk_cell BK268.out 6).trans rfl
                  have hcz23_7 : w22.cell? ⟨gb268, 7, none⟩ = some (.string a0_7) := (blk_cell BK268.out 7).trans rfl
                  have hfz23_0 := blk_frozen BK268.out 0
                  have hfz23_1 := blk_frozen BK268.out 1
                  have hfz23_2 := blk_frozen BK268.out 2
                  have hfz23_3 := blk_frozen BK268.out 3
                  have hfz23_4 := blk_frozen BK268.out 4
                  have hfz23_5 := blk_frozen BK268.out 5
                  have hfz23_6 := blk_frozen BK268.out 6
                  have hfz23_7 := blk_frozen BK268.out 7
                  try go_wp2
                  have n0_ := Aside0.mk (blk_drew BK268.out)
                  have n1_ := Aside0.mk (below_drew1 HB.out)
                  clear BK268
                  clear HB
                  have BK268 := n0_
                  have HB := n1_
                  clear n0_ n1_
                  refine start_ (n := 9) (S := fun w' => w'.cell? ⟨gb268, 0, none⟩ = some (.int .u64 a0_0) ∧ w'.cell? ⟨gb268, 1, none⟩ = some (.int .u64 a0_1) ∧ w'.cell? ⟨gb268, 2, none⟩ = some (.bool true) ∧ w'.cell? ⟨gb268, 3, none⟩ = some (.int .i64 a0_3) ∧ w'.cell? ⟨gb268, 4, none⟩ = some (.bool a0_4) ∧ w'.cell? ⟨gb268, 5, none⟩ = some (.int .i64 a0_5) ∧ w'.cell? ⟨gb268, 6, none⟩ = some (.int .i64 a0_6) ∧ w'.cell? ⟨gb268, 7, none⟩ = some (.string a0_7)) (ds := []) #[false, false, false, false, false, false, false, false, false] (by kernel_rfl) rfl rfl ⟨(blk_cell BK268.out 0).trans rfl, (blk_cell BK268.out 1).trans rfl, (blk_cell BK268.out 2).trans rfl, (blk_cell BK268.out 3).trans rfl, (blk_cell BK268.out 4).trans rfl, (blk_cell BK268.out 5).trans rfl, (blk_cell BK268.out 6).trans rfl, (blk_cell BK268.out 7).trans rfl⟩ (fun hHeld => ?_); refine with_tabW ether_Build.tab6 ether_Build.bits6 (fun HT_ HW_ => ?_)
                  generalize w22.drew = w24 at BK268 HB hHeld ⊢
                  refine pure_ (i := 0) (N := some 22) (v := ?_) (a' := ?_) #[true, false, false, false, false, false, false, false, false] rfl rfl (any_of HT_.out (by kernel_rfl)) (fun _ _ _ h => h) (Or.inl ⟨by rfl, ?_⟩) ?_ ?_
                  rotate_left
                  · intro w'
                    go_simp
                    first | with_reducible rfl | (rw [if_neg (by have hz0_ : (⟨#[]⟩ : ByteArray).size = 0 := rfl; (try simp only [decide_eq_true_eq, ByteArray.size_append, ByteArray.size_extract, eq_iff_iff, iff_true, iff_false, Nat.not_lt] at *); omega)]; try with_reducible rfl)
                  rotate_left
                  · simp only [Act.put, List.setIfInBounds_toArray, List.set_cons_zero, List.set_cons_succ, i64_w, i32_w]
                    rfl
                  refine pure_ (i := 2) (N := some 24) (v := ?_) (a' := ?_) #[true, false, true, false, false, false, false, false, false] rfl rfl (any_of HT_.out (by kernel_rfl)) (fun _ _ _ h => h) (Or.inl ⟨by rfl, ?_⟩) ?_ ?_
                  rotate_left
                  · intro w'
                    go_simp
                    first | with_reducible rfl | (rw [if_neg (by have hz0_ : (⟨#[]⟩ : ByteArray).size = 0 := rfl; (try simp only [decide_eq_true_eq, ByteArray.size_append, ByteArray.size_extract, eq_iff_iff, iff_true, iff_false, Nat.not_lt] at *); omega)]; try with_reducible rfl)
                  rotate_left
                  · simp only [Act.put, List.setIfInBounds_toArray, List.set_cons_zero, List.set_cons_succ, i64_w, i32_w]
                    rfl
                  refine take_ (i := 3) (N := some 25) (v := ?_) (a' := ?_) #[true, false, true, true, false, false, false, false, false] rfl rfl (take_ofW HT_.out HW_.out (by kernel_rfl)) (fun _ _ _ h => h) (Or.inl ⟨by rfl, ?_⟩) hHeld ?_ ?_
                  rotate_left
                  · rintro w' ⟨s0, s1, s2, s3, s4, s5, s6, s7⟩
                    go_simp
                    with_reducible rfl
                  rotate_left
                  · simp only [Act.put, List.setIfInBounds_toArray, List.set_cons_zero, List.set_cons_succ, i64_w, i32_w]
                    rfl
                  refine one_ (i := 1) (N := some 23) #[true, true, true, true, false, false, false, false, false] rfl rfl (one_of HT_.out (by kernel_rfl)) (by decide) (fun K hK => ?_)
                  refine goes_ Tryd.func28 (by kernel_rfl) rfl #[.int .u64 33024, .int .i64 2] (by first | rfl | exact wanted_on rfl rfl rfl (by first | rfl | (simp [*]; done) | (simp [*, IntKind.wrap_u32]; done))) rfl rfl (by (try simp only [List.map_toArray, List.map_cons, List.map_nil]); first | done | rfl | (simp only [List.length_drop, List.length_take]; rfl)) ?_
                  with_reducible refine (ether_put.calls k 33024 2 t272 _ A8.out).mono ?_
                  rintro e w25 ⟨rfl, hb⟩
                  refine ⟨_, rfl, ?_⟩
                  have n0_ := Aside0.mk (blk_below (g := gb268) (o := .cells #[.int .u64 a0_0, .int .u64 a0_1, .bool true, .int .i64 a0_3, .bool a0_4, .int .i64 a0_5, .int .i64 a0_6, .string a0_7] 40 (0, 0)) (by (with_reducible repeat (first | refine blk_drewN ?_ _ | refine blk_drew ?_ | refine blk_alloc ?_ _)); exact BK268.out) hb)
                  have n1_ := Aside0.mk (below_step (by repeat (first | (with_reducible first | exact HB.out | apply below_alloc | apply pw_below_drewN | apply below_drew1 | refine below_set ?_ GE268.out) | exact HB.out)) hb)
                  clear BK268
                  clear HB
                  have BK268 := n0_
                  have HB := n1_
                  clear n0_ n1_
                  (try clear hb)
                  (try clear hb2)
                  (try clear hk)
                  (try clear hi)
                  refine hK.out _ _ ⟨(blk_cell BK268.out 0).trans rfl, (blk_cell BK268.out 1).trans rfl, (blk_cell BK268.out 2).trans rfl, (blk_cell BK268.out 3).trans rfl, (blk_cell BK268.out 4).trans rfl, (blk_cell BK268.out 5).trans rfl, (blk_cell BK268.out 6).trans rfl, (blk_cell BK268.out 7).trans rfl⟩ (fun hHeld => ?_)
                  clear hK K
                  refine norm_ (a' := ?_) ?_ ?_
                  rotate_left
                  · show Act.put _ (some 23) _ = _
                    simp only [Act.put, List.setIfInBounds_toArray, List.set_cons_zero, List.set_cons_succ, i64_w, i32_w]
                    rfl
                  refine one_ (i := 4) (N := some 26) #[true, true, true, true, true, false, false, false, false] rfl rfl (one_of HT_.out (by kernel_rfl)) (by decide) (fun K hK => ?_)
                  refine goes_ Tryd.func29 (by kernel_rfl) rfl #[.agg #[.bool true, .int .i64 a0_3, .bool a0_4, .int .i64 a0_5]] (by first | rfl | exact wanted_on rfl rfl rfl (by first | rfl | (simp [*]; done) | (simp [*, IntKind.wrap_u32]; done))) rfl rfl (by (try simp only [List.map_toArray, List.map_cons, List.map_nil]); first | done | rfl | (simp only [List.length_drop, List.length_take]; rfl)) ?_
                  with_reducible refine (ether_info.calls true a0_3 a0_4 a0_5 t273 _ A9.out).mono ?_
                  rintro e w26 ⟨rfl, hb⟩
                  refine ⟨_, rfl, ?_⟩
                  have n0_ := Aside0.mk (blk_below (g := gb268) (o := .cells #[.int .u64 a0_0, .int .u64 a0_1, .bool true, .int .i64 a0_3, .bool a0_4, .int .i64 a0_5, .int .i64 a0_6, .string a0_7] 40 (0, 0)) (by (with_reducible repeat (first | refine blk_drewN ?_ _ | refine blk_drew ?_ | refine blk_alloc ?_ _)); exact BK268.out) hb)
                  have n1_ := Aside0.mk (below_step (by repeat (first | (with_reducible first | exact HB.out | apply below_alloc | apply pw_below_drewN | apply below_drew1 | refine below_set ?_ GE268.out) | exact HB.out)) hb)
                  clear BK268
                  clear HB
                  have BK268 := n0_
                  have HB := n1_
                  clear n0_ n1_
                  (try clear hb)
                  (try clear hb2)
                  (try clear hk)
                  (try clear hi)
                  refine hK.out _ _ ⟨(blk_cell BK268.out 0).trans rfl, (blk_cell BK268.out 1).trans rfl, (blk_cell BK268.out 2).trans rfl, (blk_cell BK268.out 3).trans rfl, (blk_cell BK268.out 4).trans rfl, (blk_cell BK268.out 5).trans rfl, (blk_cell BK268.out 6).trans rfl, (blk_cell BK268.out 7).trans rfl⟩ (fun hHeld => ?_)
                  clear hK K
                  refine norm_ (a' := ?_) ?_ ?_
                  rotate_left
                  · show Act.put _ (some 26) _ = _
                    simp only [Act.put, List.setIfInBounds_toArray, List.set_cons_zero, List.set_cons_succ, i64_w, i32_w]
                    rfl
                  refine one_ (i := 5) (N := some 27) #[true, true, true, true, true, true, false, false, false] rfl rfl (one_of HT_.out (by kernel_rfl)) (by decide) (fun K hK => ?_)
                  refine goes_ Tryd.func28 (by kernel_rfl) rfl #[.int .u64 t273, .int .i64 2] (by first | rfl | exact wanted_on rfl rfl rfl (by first | rfl | (simp [*]; done) | (simp [*, IntKind.wrap_u32]; done))) rfl rfl (by (try simp only [List.map_toArray, List.map_cons, List.map_nil]); first | done | rfl | (simp only [List.length_drop, List.length_take]; rfl)) ?_
                  with_reducible refine (ether_put.calls k t273 2 t274 _ A10.out).mono ?_
                  rintro e w27 ⟨rfl, hb⟩
                  refine ⟨_, rfl, ?_⟩
                  have n0_ := Aside0.mk (blk_below (g := gb268) (o := .cells #[.int .u64 a0_0, .int .u64 a0_1, .bool true, .int .i64 a0_3, .bool a0_4, .int .i64 a0_5, .int .i64 a0_6, .string a0_7] 40 (0, 0)) (by (with_reducible repeat (first | refine blk_drewN ?_ _ | refine blk_drew ?_ | refine blk_alloc ?_ _)); exact BK268.out) hb)
                  have n1_ := Aside0.mk (below_step (by repeat (first | (with_reducible first | exact HB.out | apply below_alloc | apply pw_below_drewN | apply below_drew1 | refine below_set ?_ GE268.out) | exact HB.out)) hb)
                  clear BK268
                  clear HB
                  have BK268 := n0_
                  have HB := n1_
                  clear n0_ n1_
                  (try clear hb)
                  (try clear hb2)
                  (try clear hk)
                  (try clear hi)
                  refine hK.out _ _ ⟨(blk_cell BK268.out 0).trans rfl, (blk_cell BK268.out 1).trans rfl, (blk_cell BK268.out 2).trans rfl, (blk_cell BK268.out 3).trans rfl, (blk_cell BK268.out 4).trans rfl, (blk_cell BK268.out 5).trans rfl, (blk_cell BK268.out 6).trans rfl, (blk_cell BK268.out 7).trans rfl⟩ (fun hHeld => ?_)
                  clear hK K
                  refine norm_ (a' := ?_) ?_ ?_
                  rotate_left
                  · show Act.put _ (some 27) _ = _
                    simp only [Act.put, List.setIfInBounds_toArray, List.set_cons_zero, List.set_cons_succ, i64_w, i32_w]
                    rfl
                  refine pure_ (i := 6) (N := some 28) (v := ?_) (a' := ?_) #[true, true, true, true, true, true, true, false, false] rfl rfl (any_of HT_.out (by kernel_rfl)) (fun _ _ _ h => h) (Or.inl ⟨by rfl, ?_⟩) ?_ ?_
                  rotate_left
                  · intro w'
                    go_simp
                    first | with_reducible rfl | (rw [if_neg (by have hz0_ : (⟨#[]⟩ : ByteArray).size = 0 := rfl; (try simp only [decide_eq_true_eq, ByteArray.size_append, ByteArray.size_extract, eq_iff_iff, iff_true, iff_false, Nat.not_lt] at *); omega)]; try with_reducible rfl)
                  rotate_left
                  · simp only [Act.put, List.setIfInBounds_toArray, List.set_cons_zero, List.set_cons_succ, i64_w, i32_w]
                    rfl
                  refine pure_ (i := 7) (N := some 29) (v := ?_) (a' := ?_) #[true, true, true, true, true, true, true, true, false] rfl rfl (any_of HT_.out (by kernel_rfl)) (fun _ _ _ h => h) (Or.inl ⟨by rfl, ?_⟩) ?_ ?_
                  rotate_left
                  · intro w'
                    go_simp
                    first | with_reducible rfl | (rw [if_neg (by have hz0_ : (⟨#[]⟩ : ByteArray).size = 0 := rfl; (try simp only [decide_eq_true_eq, ByteArray.size_append, ByteArray.size_extract, eq_iff_iff, iff_true, iff_false, Nat.not_lt] at *); omega)]; try with_reducible rfl)
                  rotate_left
                  · simp only [Act.put, List.setIfInBounds_toArray, List.set_cons_zero, List.set_cons_succ, i64_w, i32_w]
                    rfl
                  refine pure_ (i := 8) (N := some 5) (v := ?_) (a' := ?_) #[true, true, true, true, true, true, true, true, true] rfl rfl (any_of HT_.out (by kernel_rfl)) (fun _ _ _ h => h) (Or.inl ⟨by rfl, ?_⟩) ?_ ?_
                  rotate_left
                  · intro w'
                    go_simp
                    first | with_reducible rfl | (rw [if_neg (by have hz0_ : (⟨#[]⟩ : ByteArray).size = 0 := rfl; (try simp only [decide_eq_true_eq, ByteArray.size_append, ByteArray.size_extract, eq_iff_iff, iff_true, iff_false, Nat.not_lt] at *); omega)]; try with_reducible rfl)
                  rotate_left
                  · simp only [Act.put, List.setIfInBounds_toArray, List.set_cons_zero, List.set_cons_succ, i64_w, i32_w]
                    rfl
                  refine done_ (done_of HT_.out (by kernel_rfl)) ?_
                  have hcz28_0 : w27.cell? ⟨gb268, 0, none⟩ = some (.int .u64 a0_0) := (blk_cell BK268.out 0).trans rfl
                  have hcz28_1 : w27.cell? ⟨gb268, 1, none⟩ = some (.int .u64 a0_1) := (blk_cell BK268.out 1).trans rfl
                  have hcz28_2 : w27.cell? ⟨gb268, 2, none⟩ = some (.bool true) := (blk_cell BK268.out 2).trans rfl
                  have hcz28_3 : w27.cell? ⟨gb268, 3, none⟩ = some (.int .i64 a0_3) := (blk_cell BK268.out 3).trans rfl
                  have hcz28_4 : w27.cell? ⟨gb268, 4, none⟩ = some (.bool a0_4) := (blk_cell BK268.out 4).trans rfl
                  have hcz28_5 : w27.cell? ⟨gb268, 5, none⟩ = some (.int .i64 a0_5) := (blk_cell BK268.out 5).trans rfl
                  have hcz28_6 : w27.cell? ⟨gb268, 6, none⟩ = some (.int .i64 a0_6) := (blk_cell BK268.out 6).trans rfl
                  have hcz28_7 : w27.cell? ⟨gb268, 7, none⟩ = some (.string a0_7) := (blk_cell BK268.out 7).trans rfl
                  have hfz28_0 := blk_frozen BK268.out 0
                  have hfz28_1 := blk_frozen BK268.out 1
                  have hfz28_2 := blk_frozen BK268.out 2
                  have hfz28_3 := blk_frozen BK268.out 3
                  have hfz28_4 := blk_frozen BK268.out 4
                  have hfz28_5 := blk_frozen BK268.out 5
                  have hfz28_6 := blk_frozen BK268.out 6
                  have hfz28_7 := blk_frozen BK268.out 7
                  try go_wp2
                  have n0_ := Aside0.mk (blk_drew BK268.out)
                  have n1_ := Aside0.mk (below_drew1 HB.out)
                  clear BK268
                  clear HB
                  have BK268 := n0_
                  have HB := n1_
                  clear n0_ n1_
                  refine start_ (n := 10) (S := fun w' => w'.cell? ⟨gb268, 0, none⟩ = some (.int .u64 a0_0) ∧ w'.cell? ⟨gb268, 1, none⟩ = some (.int .u64 a0_1) ∧ w'.cell? ⟨gb268, 2, none⟩ = some (.bool true) ∧ w'.cell? ⟨gb268, 3, none⟩ = some (.int .i64 a0_3) ∧ w'.cell? ⟨gb268, 4, none⟩ = some (.bool a0_4) ∧ w'.cell? ⟨gb268, 5, none⟩ = some (.int .i64 a0_5) ∧ w'.cell? ⟨gb268, 6, none⟩ = some (.int .i64 a0_6) ∧ w'.cell? ⟨gb268, 7, none⟩ = some (.string a0_7)) (ds := []) #[false, false, false, false, false, false, false, false, false, false] (by kernel_rfl) rfl rfl ⟨(blk_cell BK268.out 0).trans rfl, (blk_cell BK268.out 1).trans rfl, (blk_cell BK268.out 2).trans rfl, (blk_cell BK268.out 3).trans rfl, (blk_cell BK268.out 4).trans rfl, (blk_cell BK268.out 5).trans rfl, (blk_cell BK268.out 6).trans rfl, (blk_cell BK268.out 7).trans rfl⟩ (fun hHeld => ?_); refine with_tabW ether_Build.tab10 ether_Build.bits10 (fun HT_ HW_ => ?_)
                  generalize w27.drew = w29 at BK268 HB hHeld ⊢
                  refine pure_ (i := 0) (N := some 37) (v := ?_) (a' := ?_) #[true, false, false, false, false, false, false, false, false, false] rfl rfl (any_of HT_.out (by kernel_rfl)) (fun _ _ _ h => h) (Or.inl ⟨by rfl, ?_⟩) ?_ ?_
                  rotate_left
                  · intro w'
                    go_simp
                    first | with_reducible rfl | (rw [if_neg (by have hz0_ : (⟨#[]⟩ : ByteArray).size = 0 := rfl; (try simp only [decide_eq_true_eq, ByteArray.size_append, ByteArray.size_extract, eq_iff_iff, iff_true, iff_false, Nat.not_lt] at *); omega)]; try with_reducible rfl)
                  rotate_left
                  · simp only [Act.put, List.setIfInBounds_toArray, List.set_cons_zero, List.set_cons_succ, i64_w, i32_w]
                    rfl
                  refine pure_ (i := 1) (N := some 38) (v := ?_) (a' := ?_) #[true, true, false, false, false, false, false, false, false, false] rfl rfl (any_of HT_.out (by kernel_rfl)) (fun _ _ _ h => h) (Or.inl ⟨by rfl, ?_⟩) ?_ ?_
                  rotate_left
                  · intro w'
                    go_simp
                    first | with_reducible rfl | (rw [if_neg (by have hz0_ : (⟨#[]⟩ : ByteArray).size = 0 := rfl; (try simp only [decide_eq_true_eq, ByteArray.size_append, ByteArray.size_extract, eq_iff_iff, iff_true, iff_false, Nat.not_lt] at *); omega)]; try with_reducible rfl)
                  rotate_left
                  · simp only [Act.put, List.setIfInBounds_toArray, List.set_cons_zero, List.set_cons_succ, i64_w, i32_w]
                    rfl
                  refine pure_ (i := 2) (N := some 39) (v := ?_) (a' := ?_) #[true, true, true, false, false, false, false, false, false, false] rfl rfl (any_of HT_.out (by kernel_rfl)) (fun _ _ _ h => h) (Or.inl ⟨by rfl, ?_⟩) ?_ ?_
                  rotate_left
                  · intro w'
                    go_simp
                    first | with_reducible rfl | (rw [if_neg (by have hz0_ : (⟨#[]⟩ : ByteArray).size = 0 := rfl; (try simp only [decide_eq_true_eq, ByteArray.size_append, ByteArray.size_extract, eq_iff_iff, iff_true, iff_false, Nat.not_lt] at *); omega)]; try with_reducible rfl)
                  rotate_left
                  · simp only [Act.put, List.setIfInBounds_toArray, List.set_cons_zero, List.set_cons_succ, i64_w, i32_w]
                    rfl
                  refine pure_ (i := 5) (N := some 42) (v := ?_) (a' := ?_) #[true, true, true, false, false, true, false, false, false, false] rfl rfl (any_of HT_.out (by kernel_rfl)) (fun _ _ _ h => h) (Or.inl ⟨by rfl, ?_⟩) ?_ ?_
                  rotate_left
                  · intro w'
                    go_simp
                    first | with_reducible rfl | (rw [if_neg (by have hz0_ : (⟨#[]⟩ : ByteArray).size = 0 := rfl; (try simp only [decide_eq_true_eq, ByteArray.size_append, ByteArray.size_extract, eq_iff_iff, iff_true, iff_false, Nat.not_lt] at *); omega)]; try with_reducible rfl)
                  rotate_left
                  · simp only [Act.put, List.setIfInBounds_toArray, List.set_cons_zero, List.set_cons_succ, i64_w, i32_w]
                    rfl
                  refine take_ (i := 6) (N := some 43) (v := ?_) (a' := ?_) #[true, true, true, false, false, true, true, false, false, false] rfl rfl (take_ofW HT_.out HW_.out (by kernel_rfl)) (fun _ _ _ h => h) (Or.inl ⟨by rfl, ?_⟩) hHeld ?_ ?_
                  rotate_left
                  · rintro w' ⟨s0, s1, s2, s3, s4, s5, s6, s7⟩
                    go_simp
                    with_reducible rfl
                  rotate_left
                  · simp only [Act.put, List.setIfInBounds_toArray, List.set_cons_zero, List.set_cons_succ, i64_w, i32_w]
                    rfl
                  refine one_ (i := 3) (N := some 40) #[true, true, true, true, false, true, true, false, false, false] rfl rfl (one_of HT_.out (by kernel_rfl)) (by decide) (fun K hK => ?_)
                  refine goes_ Tryd.func28 (by kernel_rfl) rfl #[.int .u64 (IntKind.u64.wrap ((a0_7.size : Int))), .int .i64 2] (by first | rfl | exact wanted_on rfl rfl rfl (by first | rfl | (simp [*]; done) | (simp [*, IntKind.wrap_u32]; done))) rfl rfl (by (try simp only [List.map_toArray, List.map_cons, List.map_nil]); first | done | rfl | (simp only [List.length_drop, List.length_take]; rfl)) ?_
                  with_reducible refine (ether_put.calls k (IntKind.u64.wrap ((a0_7.size : Int))) 2 t275 _ A14.out).mono ?_
                  rintro e w30 ⟨rfl, hb⟩
                  refine ⟨_, rfl, ?_⟩
                  have n0_ := Aside0.mk (blk_below (g := gb268) (o := .cells #[.int .u64 a0_0, .int .u64 a0_1, .bool true, .int .i64 a0_3, .bool a0_4, .int .i64 a0_5, .int .i64 a0_6, .string a0_7] 40 (0, 0)) (by (with_reducible repeat (first | refine blk_drewN ?_ _ | refine blk_drew ?_ | refine blk_alloc ?_ _)); exact BK268.out) hb)
                  have n1_ := Aside0.mk (below_step (by repeat (first | (with_reducible first | exact HB.out | apply below_alloc | apply pw_below_drewN | apply below_drew1 | refine below_set ?_ GE268.out) | exact HB.out)) hb)
                  clear BK268
                  clear HB
                  have BK268 := n0_
                  have HB := n1_
                  clear n0_ n1_
                  (try clear hb)
                  (try clear hb2)
                  (try clear hk)
                  (try clear hi)
                  refine hK.out _ _ ⟨(blk_cell BK268.out 0).trans rfl, (blk_cell BK268.out 1).trans rfl, (blk_cell BK268.out 2).trans rfl, (blk_cell BK268.out 3).trans rfl, (blk_cell BK268.out 4).trans rfl, (blk_cell BK268.out 5).trans rfl, (blk_cell BK268.out 6).trans rfl, (blk_cell BK268.out 7).trans rfl⟩ (fun hHeld => ?_)
                  clear hK K
                  refine norm_ (a' := ?_) ?_ ?_
                  rotate_left
                  · show Act.put _ (some 40) _ = _
                    simp only [Act.put, List.setIfInBounds_toArray, List.set_cons_zero, List.set_cons_succ, i64_w, i32_w]
                    rfl
                  refine pure_ (i := 4) (N := some 41) (v := ?_) (a' := ?_) #[true, true, true, true, true, true, true, false, false, false] rfl rfl (any_of HT_.out (by kernel_rfl)) (fun _ _ _ h => h) (Or.inl ⟨by rfl, ?_⟩) ?_ ?_
                  rotate_left
                  · intro w'
                    go_simp
                    first | with_reducible rfl | (rw [if_neg (by have hz0_ : (⟨#[]⟩ : ByteArray).size = 0 := rfl; (try simp only [decide_eq_true_eq, ByteArray.size_append, ByteArray.size_extract, eq_iff_iff, iff_true, iff_false, Nat.not_lt] at *); omega)]; try with_reducible rfl)
                  rotate_left
                  · simp only [Act.put, List.setIfInBounds_toArray, List.set_cons_zero, List.set_cons_succ, i64_w, i32_w]
                    rfl
                  refine pure_ (i := 7) (N := some 44) (v := ?_) (a' := ?_) #[true, true, true, true, true, true, true, true, false, false] rfl rfl (any_of HT_.out (by kernel_rfl)) (fun _ _ _ h => h) (Or.inl ⟨by rfl, ?_⟩) ?_ ?_
                  rotate_left
                  · intro w'
                    go_simp
                    first | with_reducible rfl | (rw [if_neg (by have hz0_ : (⟨#[]⟩ : ByteArray).size = 0 := rfl; (try simp only [decide_eq_true_eq, ByteArray.size_append, ByteArray.size_extract, eq_iff_iff, iff_true, iff_false, Nat.not_lt] at *); omega)]; try with_reducible rfl)
                  rotate_left
                  · simp only [Act.put, List.setIfInBounds_toArray, List.set_cons_zero, List.set_cons_succ, i64_w, i32_w]
                    rfl
                  refine pure_ (i := 8) (N := some 2) (v := ?_) (a' := ?_) #[true, true, true, true, true, true, true, true, true, false] rfl rfl (any_of HT_.out (by kernel_rfl)) (fun _ _ _ h => h) (Or.inl ⟨by rfl, ?_⟩) ?_ ?_
                  rotate_left
                  · intro w'
                    go_simp
                    first | with_reducible rfl | (rw [if_neg (by have hz0_ : (⟨#[]⟩ : ByteArray).size = 0 := rfl; (try simp only [decide_eq_true_eq, ByteArray.size_append, ByteArray.size_extract, eq_iff_iff, iff_true, iff_false, Nat.not_lt] at *); omega)]; try with_reducible rfl)
                  rotate_left
                  · simp only [Act.put, List.setIfInBounds_toArray, List.set_cons_zero, List.set_cons_succ, i64_w, i32_w]
                    rfl
                  refine pure_ (i := 9) (N := some 3) (v := ?_) (a' := ?_) #[true, true, true, true, true, true, true, true, true, true] rfl rfl (any_of HT_.out (by kernel_rfl)) (fun _ _ _ h => h) (Or.inl ⟨by rfl, ?_⟩) ?_ ?_
                  rotate_left
                  · intro w'
                    go_simp
                    first | with_reducible rfl | (rw [if_neg (by have hz0_ : (⟨#[]⟩ : ByteArray).size = 0 := rfl; (try simp only [decide_eq_true_eq, ByteArray.size_append, ByteArray.size_extract, eq_iff_iff, iff_true, iff_false, Nat.not_lt] at *); omega)]; try with_reducible rfl)
                  rotate_left
                  · simp only [Act.put, List.setIfInBounds_toArray, List.set_cons_zero, List.set_cons_succ, i64_w, i32_w]
                    rfl
                  refine done_ (done_of HT_.out (by kernel_rfl)) ?_
                  try go_wp2
                  go_ret2
                  exact ⟨by first | rfl | (simp [errW_none, errW_some] <;> rfl) | (simp [*, errW_none, errW_some] <;> rfl) | (simp [*, IntKind.wrap_u32]; done) | (simp_all [IntKind.wrap_u32]; done), by repeat (first | (with_reducible first | exact HB.out | apply below_alloc | apply pw_below_drewN | apply below_drew1 | refine below_set ?_ GE268.out) | exact HB.out)⟩
                · rw [if_neg c16] at H
                  exact absurd H (by simp)
              · rw [if_neg c15] at H
                exact absurd H (by simp)
            · rw [if_neg c13] at H
              have c13b0 : (a0_6 == 0) = false := beq_eq_false_iff_ne.mpr c13
              have c13b1 : (a0_6 != 0) = true := bne_iff_ne.mpr c13
              replace H := Option.bind_eq_some_iff.mp H
              obtain ⟨t276, A310, H⟩ := H
              replace H : (if ((t270 ++ t271) ++ (t272 ++ t274)).size + t276.size ≤ 9223372036854775807 then (if (((t270 ++ t271) ++ (t272 ++ t274)) ++ t276).size + a0_7.size ≤ 9223372036854775807 then (some ((((t270 ++ t271) ++ (t272 ++ t274)) ++ t276) ++ a0_7, 0)) else (none)) else (none)) = some (r1, r2) := H
              have A31 := Aside0.mk A310
              clear A310
              by_cases c32 : ((t270 ++ t271) ++ (t272 ++ t274)).size + t276.size ≤ 9223372036854775807
              · rw [if_pos c32] at H
                have c32b0 := eq_true c32
                have c32b1 : decide (((t270 ++ t271) ++ (t272 ++ t274)).size + t276.size ≤ 9223372036854775807) = true := decide_eq_true c32
                have c32z := c32
                simp only [ByteArray.size_append] at c32z
                have c32z1 := eq_true c32z
                have c32z2 := eq_false (Nat.not_lt.2 c32z)
                try have c32b2 : (9223372036854775807 < ((t270 ++ t271) ++ (t272 ++ t274)).size + t276.size) = False := eq_false (Nat.not_lt.2 c32)
                by_cases c33 : (((t270 ++ t271) ++ (t272 ++ t274)) ++ t276).size + a0_7.size ≤ 9223372036854775807
                · rw [if_pos c33] at H
                  have c33b0 := eq_true c33
                  have c33b1 : decide ((((t270 ++ t271) ++ (t272 ++ t274)) ++ t276).size + a0_7.size ≤ 9223372036854775807) = true := decide_eq_true c33
                  have c33z := c33
                  simp only [ByteArray.size_append] at c33z
                  have c33z1 := eq_true c33z
                  have c33z2 := eq_false (Nat.not_lt.2 c33z)
                  try have c33b2 : (9223372036854775807 < (((t270 ++ t271) ++ (t272 ++ t274)) ++ t276).size + a0_7.size) = False := eq_false (Nat.not_lt.2 c33)
                  simp only [Option.some.injEq, Prod.mk.injEq] at H
                  obtain ⟨rfl, rfl⟩ := H
                  go_enter Tryd.func18, Tryd.ntmps18
                  try go_wp2_with (first | ((with_reducible refine gate_dst (N := 1) rfl ?_); refine box_event ?hg (N := 1) ?hd (cs := #[.int .u64 a0_0, .int .u64 a0_1, .bool true, .int .i64 a0_3, .bool a0_4, .int .i64 a0_5, .int .i64 a0_6, .string a0_7]) (t := 40) ?hr ?_; (case hd => rfl); (case hg => rfl); (case hr => first | (go_simp; done) | (go_simp; rfl)); intro gb268 hg w34 hbox hb; have n0_ := Aside0.mk (below_step (by repeat (first | (with_reducible first | exact HB.out | apply below_alloc | apply pw_below_drewN | apply below_drew1) | exact HB.out)) hb); have n1_ := Aside0.mk (hbox); have n2_ := Aside0.mk ((by rw [hg]; exact (below_size (by repeat (first | (with_reducible first | exact HB.out | apply below_alloc | apply pw_below_drewN | apply below_drew1) | exact HB.out))) : w.heap.size ≤ gb268)); have n3_ := Aside0.mk ((by rw [hg]; exact (below_size (by repeat (first | (with_reducible first | exact HB.out | apply below_alloc | apply pw_below_drewN | apply below_drew1) | exact HB.out))) : w.heap.size ≤ gb268)); clear HB; have HB := n0_; have BK268 := n1_; have GW268 := n2_; have GE268 := n3_; clear n0_ n1_ n2_ n3_; clear hb hbox hg; have hcz35_0 : w34.cell? ⟨gb268, 0, none⟩ = some (.int .u64 a0_0) := (blk_cell BK268.out 0).trans rfl; have hcz35_1 : w34.cell? ⟨gb268, 1, none⟩ = some (.int .u64 a0_1) := (blk_cell BK268.out 1).trans rfl; have hcz35_2 : w34.cell? ⟨gb268, 2, none⟩ = some (.bool true) := (blk_cell BK268.out 2).trans rfl; have hcz35_3 : w34.cell? ⟨gb268, 3, none⟩ = some (.int .i64 a0_3) := (blk_cell BK268.out 3).trans rfl; have hcz35_4 : w34.cell? ⟨gb268, 4, none⟩ = some (.bool a0_4) := (blk_cell BK268.out 4).trans rfl; have hcz35_5 : w34.cell? ⟨gb268, 5, none⟩ = some (.int .i64 a0_5) := (blk_cell BK268.out 5).trans rfl; have hcz35_6 : w34.cell? ⟨gb268, 6, none⟩ = some (.int .i64 a0_6) := (blk_cell BK268.out 6).trans rfl; have hcz35_7 : w34.cell? ⟨gb268, 7, none⟩ = some (.string a0_7) := (blk_cell BK268.out 7).trans rfl; have hfz35_0 := blk_frozen BK268.out 0; have hfz35_1 := blk_frozen BK268.out 1; have hfz35_2 := blk_frozen BK268.out 2; have hfz35_3 := blk_frozen BK268.out 3; have hfz35_4 := blk_frozen BK268.out 4; have hfz35_5 := blk_frozen BK268.out 5; have hfz35_6 := blk_frozen BK268.out 6; have hfz35_7 := blk_frozen BK268.out 7) | ((with_reducible refine gate_callee (f := 27) rfl ?_); refine goesL_ (some 8) rfl rfl Tryd.func27 (by kernel_rfl) rfl #[.agg #[.int .u64 a0_0, .int .u64 a0_1, .bool true, .int .i64 a0_3, .bool a0_4, .int .i64 a0_5, .int .i64 a0_6, .string a0_7]] rfl (by (try simp only [List.map_toArray, List.map_cons, List.map_nil]); first | done | rfl | (simp only [List.length_drop, List.length_take]; rfl)) ?_; (with_reducible refine (ether_Check.calls k a0_0 a0_1 true a0_3 a0_4 a0_5 a0_6 a0_7 t269 _ A2.out).mono ?_); rintro e w36 ⟨rfl, hb⟩; refine ⟨_, rfl, ?_⟩; have n0_ := Aside0.mk (blk_below (g := gb268) (o := .cells #[.int .u64 a0_0, .int .u64 a0_1, .bool true, .int .i64 a0_3, .bool a0_4, .int .i64 a0_5, .int .i64 a0_6, .string a0_7] 40 (0, 0)) (by (with_reducible repeat (first | refine blk_drewN ?_ _ | refine blk_drew ?_ | refine blk_alloc ?_ _)); exact BK268.out) hb); have n1_ := Aside0.mk (below_step (by repeat (first | (with_reducible first | exact HB.out | apply below_alloc | apply pw_below_drewN | apply below_drew1 | refine below_set ?_ GE268.out) | exact HB.out)) hb); clear BK268; clear HB; have BK268 := n0_; have HB := n1_; clear n0_ n1_; have hcy1_268_0 := (show World.cell? _ ⟨gb268, 0, none⟩ = some (.int .u64 a0_0) from (blk_cell BK268.out 0).trans rfl); have hcy1_268_1 := (show World.cell? _ ⟨gb268, 1, none⟩ = some (.int .u64 a0_1) from (blk_cell BK268.out 1).trans rfl); have hcy1_268_2 := (show World.cell? _ ⟨gb268, 2, none⟩ = some (.bool true) from (blk_cell BK268.out 2).trans rfl); have hcy1_268_3 := (show World.cell? _ ⟨gb268, 3, none⟩ = some (.int .i64 a0_3) from (blk_cell BK268.out 3).trans rfl); have hcy1_268_4 := (show World.cell? _ ⟨gb268, 4, none⟩ = some (.bool a0_4) from (blk_cell BK268.out 4).trans rfl); have hcy1_268_5 := (show World.cell? _ ⟨gb268, 5, none⟩ = some (.int .i64 a0_5) from (blk_cell BK268.out 5).trans rfl); have hcy1_268_6 := (show World.cell? _ ⟨gb268, 6, none⟩ = some (.int .i64 a0_6) from (blk_cell BK268.out 6).trans rfl); have hcy1_268_7 := (show World.cell? _ ⟨gb268, 7, none⟩ = some (.string a0_7) from (blk_cell BK268.out 7).trans rfl); (try clear hb); (try clear hb2); (try clear hk); (try clear hi)))
                  have n0_ := Aside0.mk (blk_drew BK268.out)
                  have n1_ := Aside0.mk (below_drew1 HB.out)
                  clear BK268
                  clear HB
                  have BK268 := n0_
                  have HB := n1_
                  clear n0_ n1_
                  refine start_ (n := 8) (S := fun w' => w'.cell? ⟨gb268, 0, none⟩ = some (.int .u64 a0_0) ∧ w'.cell? ⟨gb268, 1, none⟩ = some (.int .u64 a0_1) ∧ w'.cell? ⟨gb268, 2, none⟩ = some (.bool true) ∧ w'.cell? ⟨gb268, 3, none⟩ = some (.int .i64 a0_3) ∧ w'.cell? ⟨gb268, 4, none⟩ = some (.bool a0_4) ∧ w'.cell? ⟨gb268, 5, none⟩ = some (.int .i64 a0_5) ∧ w'.cell? ⟨gb268, 6, none⟩ = some (.int .i64 a0_6) ∧ w'.cell? ⟨gb268, 7, none⟩ = some (.string a0_7)) (ds := []) #[false, false, false, false, false, false, false, false] (by kernel_rfl) rfl rfl ⟨(blk_cell BK268.out 0).trans rfl, (blk_cell BK268.out 1).trans rfl, (blk_cell BK268.out 2).trans rfl, (blk_cell BK268.out 3).trans rfl, (blk_cell BK268.out 4).trans rfl, (blk_cell BK268.out 5).trans rfl, (blk_cell BK268.out 6).trans rfl, (blk_cell BK268.out 7).trans rfl⟩ (fun hHeld => ?_); refine with_tabW ether_Build.tab4 ether_Build.bits4 (fun HT_ HW_ => ?_)
                  generalize w36.drew = w37 at BK268 HB hHeld ⊢
                  refine pure_ (i := 0) (N := some 12) (v := ?_) (a' := ?_) #[true, false, false, false, false, false, false, false] rfl rfl (any_of HT_.out (by kernel_rfl)) (fun _ _ _ h => h) (Or.inl ⟨by rfl, ?_⟩) ?_ ?_
                  rotate_left
                  · intro w'
                    go_simp
                    first | with_reducible rfl | (rw [if_neg (by have hz0_ : (⟨#[]⟩ : ByteArray).size = 0 := rfl; (try simp only [decide_eq_true_eq, ByteArray.size_append, ByteArray.size_extract, eq_iff_iff, iff_true, iff_false, Nat.not_lt] at *); omega)]; try with_reducible rfl)
                  rotate_left
                  · simp only [Act.put, List.setIfInBounds_toArray, List.set_cons_zero, List.set_cons_succ, i64_w, i32_w]
                    rfl
                  refine pure_ (i := 3) (N := some 15) (v := ?_) (a' := ?_) #[true, false, false, true, false, false, false, false] rfl rfl (any_of HT_.out (by kernel_rfl)) (fun _ _ _ h => h) (Or.inl ⟨by rfl, ?_⟩) ?_ ?_
                  rotate_left
                  · intro w'
                    go_simp
                    first | with_reducible rfl | (rw [if_neg (by have hz0_ : (⟨#[]⟩ : ByteArray).size = 0 := rfl; (try simp only [decide_eq_true_eq, ByteArray.size_append, ByteArray.size_extract, eq_iff_iff, iff_true, iff_false, Nat.not_lt] at *); omega)]; try with_reducible rfl)
                  rotate_left
                  · simp only [Act.put, List.setIfInBounds_toArray, List.set_cons_zero, List.set_cons_succ, i64_w, i32_w]
                    rfl
                  refine take_ (i := 1) (N := some 13) (v := ?_) (a' := ?_) #[true, true, false, true, false, false, false, false] rfl rfl (take_ofW HT_.out HW_.out (by kernel_rfl)) (fun _ _ _ h => h) (Or.inl ⟨by rfl, ?_⟩) hHeld ?_ ?_
                  rotate_left
                  · rintro w' ⟨s0, s1, s2, s3, s4, s5, s6, s7⟩
                    go_simp
                    with_reducible rfl
                  rotate_left
                  · simp only [Act.put, List.setIfInBounds_toArray, List.set_cons_zero, List.set_cons_succ, i64_w, i32_w]
                    rfl
                  refine take_ (i := 4) (N := some 16) (v := ?_) (a' := ?_) #[true, true, false, true, true, false, false, false] rfl rfl (take_ofW HT_.out HW_.out (by kernel_rfl)) (fun _ _ _ h => h) (Or.inl ⟨by rfl, ?_⟩) hHeld ?_ ?_
                  rotate_left
                  · rintro w' ⟨s0, s1, s2, s3, s4, s5, s6, s7⟩
                    go_simp
                    with_reducible rfl
                  rotate_left
                  · simp only [Act.put, List.setIfInBounds_toArray, List.set_cons_zero, List.set_cons_succ, i64_w, i32_w]
                    rfl
                  refine one_ (i := 2) (N := some 14) #[true, true, true, true, true, false, false, false] rfl rfl (one_of HT_.out (by kernel_rfl)) (by decide) (fun K hK => ?_)
                  refine goes_ Tryd.func28 (by kernel_rfl) rfl #[.int .u64 a0_0, .int .i64 6] (by first | rfl | exact wanted_on rfl rfl rfl (by first | rfl | (simp [*]; done) | (simp [*, IntKind.wrap_u32]; done))) rfl rfl (by (try simp only [List.map_toArray, List.map_cons, List.map_nil]); first | done | rfl | (simp only [List.length_drop, List.length_take]; rfl)) ?_
                  with_reducible refine (ether_put.calls k a0_0 6 t270 _ A4.out).mono ?_
                  rintro e w38 ⟨rfl, hb⟩
                  refine ⟨_, rfl, ?_⟩
                  have n0_ := Aside0.mk (blk_below (g := gb268) (o := .cells #[.int .u64 a0_0, .int .u64 a0_1, .bool true, .int .i64 a0_3, .bool a0_4, .int .i64 a0_5, .int .i64 a0_6, .string a0_7] 40 (0, 0)) (by (with_reducible repeat (first | refine blk_drewN ?_ _ | refine blk_drew ?_ | refine blk_alloc ?_ _)); exact BK268.out) hb)
                  have n1_ := Aside0.mk (below_step (by repeat (first | (with_reducible first | exact HB.out | apply below_alloc | apply pw_below_drewN | apply below_drew1 | refine below_set ?_ GE268.out) | exact HB.out)) hb)
                  clear BK268
                  clear HB
                  have BK268 := n0_
                  have HB := n1_
                  clear n0_ n1_
                  (try clear hb)
                  (try clear hb2)
                  (try clear hk)
                  (try clear hi)
                  refine hK.out _ _ ⟨(blk_cell BK268.out 0).trans rfl, (blk_cell BK268.out 1).trans rfl, (blk_cell BK268.out 2).trans rfl, (blk_cell BK268.out 3).trans rfl, (blk_cell BK268.out 4).trans rfl, (blk_cell BK268.out 5).trans rfl, (blk_cell BK268.out 6).trans rfl, (blk_cell BK268.out 7).trans rfl⟩ (fun hHeld => ?_)
                  clear hK K
                  refine norm_ (a' := ?_) ?_ ?_
                  rotate_left
                  · show Act.put _ (some 14) _ = _
                    simp only [Act.put, List.setIfInBounds_toArray, List.set_cons_zero, List.set_cons_succ, i64_w, i32_w]
                    rfl
                  refine one_ (i := 5) (N := some 17) #[true, true, true, true, true, true, false, false] rfl rfl (one_of HT_.out (by kernel_rfl)) (by decide) (fun K hK => ?_)
                  refine goes_ Tryd.func28 (by kernel_rfl) rfl #[.int .u64 a0_1, .int .i64 6] (by first | rfl | exact wanted_on rfl rfl rfl (by first | rfl | (simp [*]; done) | (simp [*, IntKind.wrap_u32]; done))) rfl rfl (by (try simp only [List.map_toArray, List.map_cons, List.map_nil]); first | done | rfl | (simp only [List.length_drop, List.length_take]; rfl)) ?_
                  with_reducible refine (ether_put.calls k a0_1 6 t271 _ A5.out).mono ?_
                  rintro e w39 ⟨rfl, hb⟩
                  refine ⟨_, rfl, ?_⟩
                  have n0_ := Aside0.mk (blk_below (g := gb268) (o := .cells #[.int .u64 a0_0, .int .u64 a0_1, .bool true, .int .i64 a0_3, .bool a0_4, .int .i64 a0_5, .int .i64 a0_6, .string a0_7] 40 (0, 0)) (by (with_reducible repeat (first | refine blk_drewN ?_ _ | refine blk_drew ?_ | refine blk_alloc ?_ _)); exact BK268.out) hb)
                  have n1_ := Aside0.mk (below_step (by repeat (first | (with_reducible first | exact HB.out | apply below_alloc | apply pw_below_drewN | apply below_drew1 | refine below_set ?_ GE268.out) | exact HB.out)) hb)
                  clear BK268
                  clear HB
                  have BK268 := n0_
                  have HB := n1_
                  clear n0_ n1_
                  (try clear hb)
                  (try clear hb2)
                  (try clear hk)
                  (try clear hi)
                  refine hK.out _ _ ⟨(blk_cell BK268.out 0).trans rfl, (blk_cell BK268.out 1).trans rfl, (blk_cell BK268.out 2).trans rfl, (blk_cell BK268.out 3).trans rfl, (blk_cell BK268.out 4).trans rfl, (blk_cell BK268.out 5).trans rfl, (blk_cell BK268.out 6).trans rfl, (blk_cell BK268.out 7).trans rfl⟩ (fun hHeld => ?_)
                  clear hK K
                  refine norm_ (a' := ?_) ?_ ?_
                  rotate_left
                  · show Act.put _ (some 17) _ = _
                    simp only [Act.put, List.setIfInBounds_toArray, List.set_cons_zero, List.set_cons_succ, i64_w, i32_w]
                    rfl
                  refine pure_ (i := 6) (N := some 18) (v := ?_) (a' := ?_) #[true, true, true, true, true, true, true, false] rfl rfl (any_of HT_.out (by kernel_rfl)) (fun _ _ _ h => h) (Or.inl ⟨by rfl, ?_⟩) ?_ ?_
                  rotate_left
                  · intro w'
                    go_simp
                    first | with_reducible rfl | (rw [if_neg (by have hz0_ : (⟨#[]⟩ : ByteArray).size = 0 := rfl; (try simp only [decide_eq_true_eq, ByteArray.size_append, ByteArray.size_extract, eq_iff_iff, iff_true, iff_false, Nat.not_lt] at *); omega)]; try with_reducible rfl)
                  rotate_left
                  · simp only [Act.put, List.setIfInBounds_toArray, List.set_cons_zero, List.set_cons_succ, i64_w, i32_w]
                    rfl
                  refine pure_ (i := 7) (N := some 5) (v := ?_) (a' := ?_) #[true, true, true, true, true, true, true, true] rfl rfl (any_of HT_.out (by kernel_rfl)) (fun _ _ _ h => h) (Or.inl ⟨by rfl, ?_⟩) ?_ ?_
                  rotate_left
                  · intro w'
                    go_simp
                    first | with_reducible rfl | (rw [if_neg (by have hz0_ : (⟨#[]⟩ : ByteArray).size = 0 := rfl; (try simp only [decide_eq_true_eq, ByteArray.size_append, ByteArray.size_extract, eq_iff_iff, iff_true, iff_false, Nat.not_lt] at *); omega)]; try with_reducible rfl)
                  rotate_left
                  · simp only [Act.put, List.setIfInBounds_toArray, List.set_cons_zero, List.set_cons_succ, i64_w, i32_w]
                    rfl
                  refine done_ (done_of HT_.out (by kernel_rfl)) ?_
                  have hcz40_0 : w39.cell? ⟨gb268, 0, none⟩ = some (.int .u64 a0_0) := (blk_cell BK268.out 0).trans rfl
                  have hcz40_1 : w39.cell? ⟨gb268, 1, none⟩ = some (.int .u64 a0_1) := (blk_cell BK268.out 1).trans rfl
                  have hcz40_2 : w39.cell? ⟨gb268, 2, none⟩ = some (.bool true) := (blk_cell BK268.out 2).trans rfl
                  have hcz40_3 : w39.cell? ⟨gb268, 3, none⟩ = some (.int .i64 a0_3) := (blk_cell BK268.out 3).trans rfl
                  have hcz40_4 : w39.cell? ⟨gb268, 4, none⟩ = some (.bool a0_4) := (blk_cell BK268.out 4).trans rfl
                  have hcz40_5 : w39.cell? ⟨gb268, 5, none⟩ = some (.int .i64 a0_5) := (blk_cell BK268.out 5).trans rfl
                  have hcz40_6 : w39.cell? ⟨gb268, 6, none⟩ = some (.int .i64 a0_6) := (blk_cell BK268.out 6).trans rfl
                  have hcz40_7 : w39.cell? ⟨gb268, 7, none⟩ = some (.string a0_7) := (blk_cell BK268.out 7).trans rfl
                  have hfz40_0 := blk_frozen BK268.out 0
                  have hfz40_1 := blk_frozen BK268.out 1
                  have hfz40_2 := blk_frozen BK268.out 2
                  have hfz40_3 := blk_frozen BK268.out 3
                  have hfz40_4 := blk_frozen BK268.out 4
                  have hfz40_5 := blk_frozen BK268.out 5
                  have hfz40_6 := blk_frozen BK268.out 6
                  have hfz40_7 := blk_frozen BK268.out 7
                  try go_wp2
                  have n0_ := Aside0.mk (blk_drew BK268.out)
                  have n1_ := Aside0.mk (below_drew1 HB.out)
                  clear BK268
                  clear HB
                  have BK268 := n0_
                  have HB := n1_
                  clear n0_ n1_
                  refine start_ (n := 9) (S := fun w' => w'.cell? ⟨gb268, 0, none⟩ = some (.int .u64 a0_0) ∧ w'.cell? ⟨gb268, 1, none⟩ = some (.int .u64 a0_1) ∧ w'.cell? ⟨gb268, 2, none⟩ = some (.bool true) ∧ w'.cell? ⟨gb268, 3, none⟩ = some (.int .i64 a0_3) ∧ w'.cell? ⟨gb268, 4, none⟩ = some (.bool a0_4) ∧ w'.cell? ⟨gb268, 5, none⟩ = some (.int .i64 a0_5) ∧ w'.cell? ⟨gb268, 6, none⟩ = some (.int .i64 a0_6) ∧ w'.cell? ⟨gb268, 7, none⟩ = some (.string a0_7)) (ds := []) #[false, false, false, false, false, false, false, false, false] (by kernel_rfl) rfl rfl ⟨(blk_cell BK268.out 0).trans rfl, (blk_cell BK268.out 1).trans rfl, (blk_cell BK268.out 2).trans rfl, (blk_cell BK268.out 3).trans rfl, (blk_cell BK268.out 4).trans rfl, (blk_cell BK268.out 5).trans rfl, (blk_cell BK268.out 6).trans rfl, (blk_cell BK268.out 7).trans rfl⟩ (fun hHeld => ?_); refine with_tabW ether_Build.tab6 ether_Build.bits6 (fun HT_ HW_ => ?_)
                  generalize w39.drew = w41 at BK268 HB hHeld ⊢
                  refine pure_ (i := 0) (N := some 22) (v := ?_) (a' := ?_) #[true, false, false, false, false, false, false, false, false] rfl rfl (any_of HT_.out (by kernel_rfl)) (fun _ _ _ h => h) (Or.inl ⟨by rfl, ?_⟩) ?_ ?_
                  rotate_left
                  · intro w'
                    go_simp
                    first | with_reducible rfl | (rw [if_neg (by have hz0_ : (⟨#[]⟩ : ByteArray).size = 0 := rfl; (try simp only [decide_eq_true_eq, ByteArray.size_append, ByteArray.size_extract, eq_iff_iff, iff_true, iff_false, Nat.not_lt] at *); omega)]; try with_reducible rfl)
                  rotate_left
                  · simp only [Act.put, List.setIfInBounds_toArray, List.set_cons_zero, List.set_cons_succ, i64_w, i32_w]
                    rfl
                  refine pure_ (i := 2) (N := some 24) (v := ?_) (a' := ?_) #[true, false, true, false, false, false, false, false, false] rfl rfl (any_of HT_.out (by kernel_rfl)) (fun _ _ _ h => h) (Or.inl ⟨by rfl, ?_⟩) ?_ ?_
                  rotate_left
                  · intro w'
                    go_simp
                    first | with_reducible rfl | (rw [if_neg (by have hz0_ : (⟨#[]⟩ : ByteArray).size = 0 := rfl; (try simp only [decide_eq_true_eq, ByteArray.size_append, ByteArray.size_extract, eq_iff_iff, iff_true, iff_false, Nat.not_lt] at *); omega)]; try with_reducible rfl)
                  rotate_left
                  · simp only [Act.put, List.setIfInBounds_toArray, List.set_cons_zero, List.set_cons_succ, i64_w, i32_w]
                    rfl
                  refine take_ (i := 3) (N := some 25) (v := ?_) (a' := ?_) #[true, false, true, true, false, false, false, false, false] rfl rfl (take_ofW HT_.out HW_.out (by kernel_rfl)) (fun _ _ _ h => h) (Or.inl ⟨by rfl, ?_⟩) hHeld ?_ ?_
                  rotate_left
                  · rintro w' ⟨s0, s1, s2, s3, s4, s5, s6, s7⟩
                    go_simp
                    with_reducible rfl
                  rotate_left
                  · simp only [Act.put, List.setIfInBounds_toArray, List.set_cons_zero, List.set_cons_succ, i64_w, i32_w]
                    rfl
                  refine one_ (i := 1) (N := some 23) #[true, true, true, true, false, false, false, false, false] rfl rfl (one_of HT_.out (by kernel_rfl)) (by decide) (fun K hK => ?_)
                  refine goes_ Tryd.func28 (by kernel_rfl) rfl #[.int .u64 33024, .int .i64 2] (by first | rfl | exact wanted_on rfl rfl rfl (by first | rfl | (simp [*]; done) | (simp [*, IntKind.wrap_u32]; done))) rfl rfl (by (try simp only [List.map_toArray, List.map_cons, List.map_nil]); first | done | rfl | (simp only [List.length_drop, List.length_take]; rfl)) ?_
                  with_reducible refine (ether_put.calls k 33024 2 t272 _ A8.out).mono ?_
                  rintro e w42 ⟨rfl, hb⟩
                  refine ⟨_, rfl, ?_⟩
                  have n0_ := Aside0.mk (blk_below (g := gb268) (o := .cells #[.int .u64 a0_0, .int .u64 a0_1, .bool true, .int .i64 a0_3, .bool a0_4, .int .i64 a0_5, .int .i64 a0_6, .string a0_7] 40 (0, 0)) (by (with_reducible repeat (first | refine blk_drewN ?_ _ | refine blk_drew ?_ | refine blk_alloc ?_ _)); exact BK268.out) hb)
                  have n1_ := Aside0.mk (below_step (by repeat (first | (with_reducible first | exact HB.out | apply below_alloc | apply pw_below_drewN | apply below_drew1 | refine below_set ?_ GE268.out) | exact HB.out)) hb)
                  clear BK268
                  clear HB
                  have BK268 := n0_
                  have HB := n1_
                  clear n0_ n1_
                  (try clear hb)
                  (try clear hb2)
                  (try clear hk)
                  (try clear hi)
                  refine hK.out _ _ ⟨(blk_cell BK268.out 0).trans rfl, (blk_cell BK268.out 1).trans rfl, (blk_cell BK268.out 2).trans rfl, (blk_cell BK268.out 3).trans rfl, (blk_cell BK268.out 4).trans rfl, (blk_cell BK268.out 5).trans rfl, (blk_cell BK268.out 6).trans rfl, (blk_cell BK268.out 7).trans rfl⟩ (fun hHeld => ?_)
                  clear hK K
                  refine norm_ (a' := ?_) ?_ ?_
                  rotate_left
                  · show Act.put _ (some 23) _ = _
                    simp only [Act.put, List.setIfInBounds_toArray, List.set_cons_zero, List.set_cons_succ, i64_w, i32_w]
                    rfl
                  refine one_ (i := 4) (N := some 26) #[true, true, true, true, true, false, false, false, false] rfl rfl (one_of HT_.out (by kernel_rfl)) (by decide) (fun K hK => ?_)
                  refine goes_ Tryd.func29 (by kernel_rfl) rfl #[.agg #[.bool true, .int .i64 a0_3, .bool a0_4, .int .i64 a0_5]] (by first | rfl | exact wanted_on rfl rfl rfl (by first | rfl | (simp [*]; done) | (simp [*, IntKind.wrap_u32]; done))) rfl rfl (by (try simp only [List.map_toArray, List.map_cons, List.map_nil]); first | done | rfl | (simp only [List.length_drop, List.length_take]; rfl)) ?_
                  with_reducible refine (ether_info.calls true a0_3 a0_4 a0_5 t273 _ A9.out).mono ?_
                  rintro e w43 ⟨rfl, hb⟩
                  refine ⟨_, rfl, ?_⟩
                  have n0_ := Aside0.mk (blk_below (g := gb268) (o := .cells #[.int .u64 a0_0, .int .u64 a0_1, .bool true, .int .i64 a0_3, .bool a0_4, .int .i64 a0_5, .int .i64 a0_6, .string a0_7] 40 (0, 0)) (by (with_reducible repeat (first | refine blk_drewN ?_ _ | refine blk_drew ?_ | refine blk_alloc ?_ _)); exact BK268.out) hb)
                  have n1_ := Aside0.mk (below_step (by repeat (first | (with_reducible first | exact HB.out | apply below_alloc | apply pw_below_drewN | apply below_drew1 | refine below_set ?_ GE268.out) | exact HB.out)) hb)
                  clear BK268
                  clear HB
                  have BK268 := n0_
                  have HB := n1_
                  clear n0_ n1_
                  (try clear hb)
                  (try clear hb2)
                  (try clear hk)
                  (try clear hi)
                  refine hK.out _ _ ⟨(blk_cell BK268.out 0).trans rfl, (blk_cell BK268.out 1).trans rfl, (blk_cell BK268.out 2).trans rfl, (blk_cell BK268.out 3).trans rfl, (blk_cell BK268.out 4).trans rfl, (blk_cell BK268.out 5).trans rfl, (blk_cell BK268.out 6).trans rfl, (blk_cell BK268.out 7).trans rfl⟩ (fun hHeld => ?_)
                  clear hK K
                  refine norm_ (a' := ?_) ?_ ?_
                  rotate_left
                  · show Act.put _ (some 26) _ = _
                    simp only [Act.put, List.setIfInBounds_toArray, List.set_cons_zero, List.set_cons_succ, i64_w, i32_w]
                    rfl
                  refine one_ (i := 5) (N := some 27) #[true, true, true, true, true, true, false, false, false] rfl rfl (one_of HT_.out (by kernel_rfl)) (by decide) (fun K hK => ?_)
                  refine goes_ Tryd.func28 (by kernel_rfl) rfl #[.int .u64 t273, .int .i64 2] (by first | rfl | exact wanted_on rfl rfl rfl (by first | rfl | (simp [*]; done) | (simp [*, IntKind.wrap_u32]; done))) rfl rfl (by (try simp only [List.map_toArray, List.map_cons, List.map_nil]); first | done | rfl | (simp only [List.length_drop, List.length_take]; rfl)) ?_
                  with_reducible refine (ether_put.calls k t273 2 t274 _ A10.out).mono ?_
                  rintro e w44 ⟨rfl, hb⟩
                  refine ⟨_, rfl, ?_⟩
                  have n0_ := Aside0.mk (blk_below (g := gb268) (o := .cells #[.int .u64 a0_0, .int .u64 a0_1, .bool true, .int .i64 a0_3, .bool a0_4, .int .i64 a0_5, .int .i64 a0_6, .string a0_7] 40 (0, 0)) (by (with_reducible repeat (first | refine blk_drewN ?_ _ | refine blk_drew ?_ | refine blk_alloc ?_ _)); exact BK268.out) hb)
                  have n1_ := Aside0.mk (below_step (by repeat (first | (with_reducible first | exact HB.out | apply below_alloc | apply pw_below_drewN | apply below_drew1 | refine below_set ?_ GE268.out) | exact HB.out)) hb)
                  clear BK268
                  clear HB
                  have BK268 := n0_
                  have HB := n1_
                  clear n0_ n1_
                  (try clear hb)
                  (try clear hb2)
                  (try clear hk)
                  (try clear hi)
                  refine hK.out _ _ ⟨(blk_cell BK268.out 0).trans rfl, (blk_cell BK268.out 1).trans rfl, (blk_cell BK268.out 2).trans rfl, (blk_cell BK268.out 3).trans rfl, (blk_cell BK268.out 4).trans rfl, (blk_cell BK268.out 5).trans rfl, (blk_cell BK268.out 6).trans rfl, (blk_cell BK268.out 7).trans rfl⟩ (fun hHeld => ?_)
                  clear hK K
                  refine norm_ (a' := ?_) ?_ ?_
                  rotate_left
                  · show Act.put _ (some 27) _ = _
                    simp only [Act.put, List.setIfInBounds_toArray, List.set_cons_zero, List.set_cons_succ, i64_w, i32_w]
                    rfl
                  refine pure_ (i := 6) (N := some 28) (v := ?_) (a' := ?_) #[true, true, true, true, true, true, true, false, false] rfl rfl (any_of HT_.out (by kernel_rfl)) (fun _ _ _ h => h) (Or.inl ⟨by rfl, ?_⟩) ?_ ?_
                  rotate_left
                  · intro w'
                    go_simp
                    first | with_reducible rfl | (rw [if_neg (by have hz0_ : (⟨#[]⟩ : ByteArray).size = 0 := rfl; (try simp only [decide_eq_true_eq, ByteArray.size_append, ByteArray.size_extract, eq_iff_iff, iff_true, iff_false, Nat.not_lt] at *); omega)]; try with_reducible rfl)
                  rotate_left
                  · simp only [Act.put, List.setIfInBounds_toArray, List.set_cons_zero, List.set_cons_succ, i64_w, i32_w]
                    rfl
                  refine pure_ (i := 7) (N := some 29) (v := ?_) (a' := ?_) #[true, true, true, true, true, true, true, true, false] rfl rfl (any_of HT_.out (by kernel_rfl)) (fun _ _ _ h => h) (Or.inl ⟨by rfl, ?_⟩) ?_ ?_
                  rotate_left
                  · intro w'
                    go_simp
                    first | with_reducible rfl | (rw [if_neg (by have hz0_ : (⟨#[]⟩ : ByteArray).size = 0 := rfl; (try simp only [decide_eq_true_eq, ByteArray.size_append, ByteArray.size_extract, eq_iff_iff, iff_true, iff_false, Nat.not_lt] at *); omega)]; try with_reducible rfl)
                  rotate_left
                  · simp only [Act.put, List.setIfInBounds_toArray, List.set_cons_zero, List.set_cons_succ, i64_w, i32_w]
                    rfl
                  refine pure_ (i := 8) (N := some 5) (v := ?_) (a' := ?_) #[true, true, true, true, true, true, true, true, true] rfl rfl (any_of HT_.out (by kernel_rfl)) (fun _ _ _ h => h) (Or.inl ⟨by rfl, ?_⟩) ?_ ?_
                  rotate_left
                  · intro w'
                    go_simp
                    first | with_reducible rfl | (rw [if_neg (by have hz0_ : (⟨#[]⟩ : ByteArray).size = 0 := rfl; (try simp only [decide_eq_true_eq, ByteArray.size_append, ByteArray.size_extract, eq_iff_iff, iff_true, iff_false, Nat.not_lt] at *); omega)]; try with_reducible rfl)
                  rotate_left
                  · simp only [Act.put, List.setIfInBounds_toArray, List.set_cons_zero, List.set_cons_succ, i64_w, i32_w]
                    rfl
                  refine done_ (done_of HT_.out (by kernel_rfl)) ?_
                  have hcz45_0 : w44.cell? ⟨gb268, 0, none⟩ = some (.int .u64 a0_0) := (blk_cell BK268.out 0).trans rfl
                  have hcz45_1 : w44.cell? ⟨gb268, 1, none⟩ = some (.int .u64 a0_1) := (blk_cell BK268.out 1).trans rfl
                  have hcz45_2 : w44.cell? ⟨gb268, 2, none⟩ = some (.bool true) := (blk_cell BK268.out 2).trans rfl
                  have hcz45_3 : w44.cell? ⟨gb268, 3, none⟩ = some (.int .i64 a0_3) := (blk_cell BK268.out 3).trans rfl
                  have hcz45_4 : w44.cell? ⟨gb268, 4, none⟩ = some (.bool a0_4) := (blk_cell BK268.out 4).trans rfl
                  have hcz45_5 : w44.cell? ⟨gb268, 5, none⟩ = some (.int .i64 a0_5) := (blk_cell BK268.out 5).trans rfl
                  have hcz45_6 : w44.cell? ⟨gb268, 6, none⟩ = some (.int .i64 a0_6) := (blk_cell BK268.out 6).trans rfl
                  have hcz45_7 : w44.cell? ⟨gb268, 7, none⟩ = some (.string a0_7) := (blk_cell BK268.out 7).trans rfl
                  have hfz45_0 := blk_frozen BK268.out 0
                  have hfz45_1 := blk_frozen BK268.out 1
                  have hfz45_2 := blk_frozen BK268.out 2
                  have hfz45_3 := blk_frozen BK268.out 3
                  have hfz45_4 := blk_frozen BK268.out 4
                  have hfz45_5 := blk_frozen BK268.out 5
                  have hfz45_6 := blk_frozen BK268.out 6
                  have hfz45_7 := blk_frozen BK268.out 7
                  try go_wp2
                  have n0_ := Aside0.mk (blk_drew BK268.out)
                  have n1_ := Aside0.mk (below_drew1 HB.out)
                  clear BK268
                  clear HB
                  have BK268 := n0_
                  have HB := n1_
                  clear n0_ n1_
                  refine start_ (n := 10) (S := fun w' => w'.cell? ⟨gb268, 0, none⟩ = some (.int .u64 a0_0) ∧ w'.cell? ⟨gb268, 1, none⟩ = some (.int .u64 a0_1) ∧ w'.cell? ⟨gb268, 2, none⟩ = some (.bool true) ∧ w'.cell? ⟨gb268, 3, none⟩ = some (.int .i64 a0_3) ∧ w'.cell? ⟨gb268, 4, none⟩ = some (.bool a0_4) ∧ w'.cell? ⟨gb268, 5, none⟩ = some (.int .i64 a0_5) ∧ w'.cell? ⟨gb268, 6, none⟩ = some (.int .i64 a0_6) ∧ w'.cell? ⟨gb268, 7, none⟩ = some (.string a0_7)) (ds := []) #[false, false, false, false, false, false, false, false, false, false] (by kernel_rfl) rfl rfl ⟨(blk_cell BK268.out 0).trans rfl, (blk_cell BK268.out 1).trans rfl, (blk_cell BK268.out 2).trans rfl, (blk_cell BK268.out 3).trans rfl, (blk_cell BK268.out 4).trans rfl, (blk_cell BK268.out 5).trans rfl, (blk_cell BK268.out 6).trans rfl, (blk_cell BK268.out 7).trans rfl⟩ (fun hHeld => ?_); refine with_tabW ether_Build.tab10 ether_Build.bits10 (fun HT_ HW_ => ?_)
                  generalize w44.drew = w46 at BK268 HB hHeld ⊢
                  refine pure_ (i := 0) (N := some 37) (v := ?_) (a' := ?_) #[true, false, false, false, false, false, false, false, false, false] rfl rfl (any_of HT_.out (by kernel_rfl)) (fun _ _ _ h => h) (Or.inl ⟨by rfl, ?_⟩) ?_ ?_
                  rotate_left
                  · intro w'
                    go_simp
                    first | with_reducible rfl | (rw [if_neg (by have hz0_ : (⟨#[]⟩ : ByteArray).size = 0 := rfl; (try simp only [decide_eq_true_eq, ByteArray.size_append, ByteArray.size_extract, eq_iff_iff, iff_true, iff_false, Nat.not_lt] at *); omega)]; try with_reducible rfl)
                  rotate_left
                  · simp only [Act.put, List.setIfInBounds_toArray, List.set_cons_zero, List.set_cons_succ, i64_w, i32_w]
                    rfl
                  refine pure_ (i := 1) (N := some 38) (v := ?_) (a' := ?_) #[true, true, false, false, false, false, false, false, false, false] rfl rfl (any_of HT_.out (by kernel_rfl)) (fun _ _ _ h => h) (Or.inl ⟨by rfl, ?_⟩) ?_ ?_
                  rotate_left
                  · intro w'
                    go_simp
                    first | with_reducible rfl | (rw [if_neg (by have hz0_ : (⟨#[]⟩ : ByteArray).size = 0 := rfl; (try simp only [decide_eq_true_eq, ByteArray.size_append, ByteArray.size_extract, eq_iff_iff, iff_true, iff_false, Nat.not_lt] at *); omega)]; try with_reducible rfl)
                  rotate_left
                  · simp only [Act.put, List.setIfInBounds_toArray, List.set_cons_zero, List.set_cons_succ, i64_w, i32_w]
                    rfl
                  refine pure_ (i := 2) (N := some 39) (v := ?_) (a' := ?_) #[true, true, true, false, false, false, false, false, false, false] rfl rfl (any_of HT_.out (by kernel_rfl)) (fun _ _ _ h => h) (Or.inl ⟨by rfl, ?_⟩) ?_ ?_
                  rotate_left
                  · intro w'
                    go_simp
                    first | with_reducible rfl | (rw [if_neg (by have hz0_ : (⟨#[]⟩ : ByteArray).size = 0 := rfl; (try simp only [decide_eq_true_eq, ByteArray.size_append, ByteArray.size_extract, eq_iff_iff, iff_true, iff_false, Nat.not_lt] at *); omega)]; try with_reducible rfl)
                  rotate_left
                  · simp only [Act.put, List.setIfInBounds_toArray, List.set_cons_zero, List.set_cons_succ, i64_w, i32_w]
                    rfl
                  refine pure_ (i := 5) (N := some 42) (v := ?_) (a' := ?_) #[true, true, true, false, false, true, false, false, false, false] rfl rfl (any_of HT_.out (by kernel_rfl)) (fun _ _ _ h => h) (Or.inl ⟨by rfl, ?_⟩) ?_ ?_
                  rotate_left
                  · intro w'
                    go_simp
                    first | with_reducible rfl | (rw [if_neg (by have hz0_ : (⟨#[]⟩ : ByteArray).size = 0 := rfl; (try simp only [decide_eq_true_eq, ByteArray.size_append, ByteArray.size_extract, eq_iff_iff, iff_true, iff_false, Nat.not_lt] at *); omega)]; try with_reducible rfl)
                  rotate_left
                  · simp only [Act.put, List.setIfInBounds_toArray, List.set_cons_zero, List.set_cons_succ, i64_w, i32_w]
                    rfl
                  refine take_ (i := 6) (N := some 43) (v := ?_) (a' := ?_) #[true, true, true, false, false, true, true, false, false, false] rfl rfl (take_ofW HT_.out HW_.out (by kernel_rfl)) (fun _ _ _ h => h) (Or.inl ⟨by rfl, ?_⟩) hHeld ?_ ?_
                  rotate_left
                  · rintro w' ⟨s0, s1, s2, s3, s4, s5, s6, s7⟩
                    go_simp
                    with_reducible rfl
                  rotate_left
                  · simp only [Act.put, List.setIfInBounds_toArray, List.set_cons_zero, List.set_cons_succ, i64_w, i32_w]
                    rfl
                  refine one_ (i := 3) (N := some 40) #[true, true, true, true, false, true, true, false, false, false] rfl rfl (one_of HT_.out (by kernel_rfl)) (by decide) (fun K hK => ?_)
                  refine goes_ Tryd.func28 (by kernel_rfl) rfl #[.int .u64 (IntKind.u64.wrap (a0_6)), .int .i64 2] (by first | rfl | exact wanted_on rfl rfl rfl (by first | rfl | (simp [*]; done) | (simp [*, IntKind.wrap_u32]; done))) rfl rfl (by (try simp only [List.map_toArray, List.map_cons, List.map_nil]); first | done | rfl | (simp only [List.length_drop, List.length_take]; rfl)) ?_
                  with_reducible refine (ether_put.calls k (IntKind.u64.wrap (a0_6)) 2 t276 _ A31.out).mono ?_
                  rintro e w47 ⟨rfl, hb⟩
                  refine ⟨_, rfl, ?_⟩
                  have n0_ := Aside0.mk (blk_below (g := gb268) (o := .cells #[.int .u64 a0_0, .int .u64 a0_1, .bool true, .int .i64 a0_3, .bool a0_4, .int .i64 a0_5, .int .i64 a0_6, .string a0_7] 40 (0, 0)) (by (with_reducible repeat (first | refine blk_drewN ?_ _ | refine blk_drew ?_ | refine blk_alloc ?_ _)); exact BK268.out) hb)
                  have n1_ := Aside0.mk (below_step (by repeat (first | (with_reducible first | exact HB.out | apply below_alloc | apply pw_below_drewN | apply below_drew1 | refine below_set ?_ GE268.out) | exact HB.out)) hb)
                  clear BK268
                  clear HB
                  have BK268 := n0_
                  have HB := n1_
                  clear n0_ n1_
                  (try clear hb)
                  (try clear hb2)
                  (try clear hk)
                  (try clear hi)
                  refine hK.out _ _ ⟨(blk_cell BK268.out 0).trans rfl, (blk_cell BK268.out 1).trans rfl, (blk_cell BK268.out 2).trans rfl, (blk_cell BK268.out 3).trans rfl, (blk_cell BK268.out 4).trans rfl, (blk_cell BK268.out 5).trans rfl, (blk_cell BK268.out 6).trans rfl, (blk_cell BK268.out 7).trans rfl⟩ (fun hHeld => ?_)
                  clear hK K
                  refine norm_ (a' := ?_) ?_ ?_
                  rotate_left
                  · show Act.put _ (some 40) _ = _
                    simp only [Act.put, List.setIfInBounds_toArray, List.set_cons_zero, List.set_cons_succ, i64_w, i32_w]
                    rfl
                  refine pure_ (i := 4) (N := some 41) (v := ?_) (a' := ?_) #[true, true, true, true, true, true, true, false, false, false] rfl rfl (any_of HT_.out (by kernel_rfl)) (fun _ _ _ h => h) (Or.inl ⟨by rfl, ?_⟩) ?_ ?_
                  rotate_left
                  · intro w'
                    go_simp
                    first | with_reducible rfl | (rw [if_neg (by have hz0_ : (⟨#[]⟩ : ByteArray).size = 0 := rfl; (try simp only [decide_eq_true_eq, ByteArray.size_append, ByteArray.size_extract, eq_iff_iff, iff_true, iff_false, Nat.not_lt] at *); omega)]; try with_reducible rfl)
                  rotate_left
                  · simp only [Act.put, List.setIfInBounds_toArray, List.set_cons_zero, List.set_cons_succ, i64_w, i32_w]
                    rfl
                  refine pure_ (i := 7) (N := some 44) (v := ?_) (a' := ?_) #[true, true, true, true, true, true, true, true, false, false] rfl rfl (any_of HT_.out (by kernel_rfl)) (fun _ _ _ h => h) (Or.inl ⟨by rfl, ?_⟩) ?_ ?_
                  rotate_left
                  · intro w'
                    go_simp
                    first | with_reducible rfl | (rw [if_neg (by have hz0_ : (⟨#[]⟩ : ByteArray).size = 0 := rfl; (try simp only [decide_eq_true_eq, ByteArray.size_append, ByteArray.size_extract, eq_iff_iff, iff_true, iff_false, Nat.not_lt] at *); omega)]; try with_reducible rfl)
                  rotate_left
                  · simp only [Act.put, List.setIfInBounds_toArray, List.set_cons_zero, List.set_cons_succ, i64_w, i32_w]
                    rfl
                  refine pure_ (i := 8) (N := some 2) (v := ?_) (a' := ?_) #[true, true, true, true, true, true, true, true, true, false] rfl rfl (any_of HT_.out (by kernel_rfl)) (fun _ _ _ h => h) (Or.inl ⟨by rfl, ?_⟩) ?_ ?_
                  rotate_left
                  · intro w'
                    go_simp
                    first | with_reducible rfl | (rw [if_neg (by have hz0_ : (⟨#[]⟩ : ByteArray).size = 0 := rfl; (try simp only [decide_eq_true_eq, ByteArray.size_append, ByteArray.size_extract, eq_iff_iff, iff_true, iff_false, Nat.not_lt] at *); omega)]; try with_reducible rfl)
                  rotate_left
                  · simp only [Act.put, List.setIfInBounds_toArray, List.set_cons_zero, List.set_cons_succ, i64_w, i32_w]
                    rfl
                  refine pure_ (i := 9) (N := some 3) (v := ?_) (a' := ?_) #[true, true, true, true, true, true, true, true, true, true] rfl rfl (any_of HT_.out (by kernel_rfl)) (fun _ _ _ h => h) (Or.inl ⟨by rfl, ?_⟩) ?_ ?_
                  rotate_left
                  · intro w'
                    go_simp
                    first | with_reducible rfl | (rw [if_neg (by have hz0_ : (⟨#[]⟩ : ByteArray).size = 0 := rfl; (try simp only [decide_eq_true_eq, ByteArray.size_append, ByteArray.size_extract, eq_iff_iff, iff_true, iff_false, Nat.not_lt] at *); omega)]; try with_reducible rfl)
                  rotate_left
                  · simp only [Act.put, List.setIfInBounds_toArray, List.set_cons_zero, List.set_cons_succ, i64_w, i32_w]
                    rfl
                  refine done_ (done_of HT_.out (by kernel_rfl)) ?_
                  try go_wp2
                  go_ret2
                  exact ⟨by first | rfl | (simp [errW_none, errW_some] <;> rfl) | (simp [*, errW_none, errW_some] <;> rfl) | (simp [*, IntKind.wrap_u32]; done) | (simp_all [IntKind.wrap_u32]; done), by repeat (first | (with_reducible first | exact HB.out | apply below_alloc | apply pw_below_drewN | apply below_drew1 | refine below_set ?_ GE268.out) | exact HB.out)⟩
                · rw [if_neg c33] at H
                  exact absurd H (by simp)
              · rw [if_neg c32] at H
                exact absurd H (by simp)
          · rw [if_neg c12] at H
            exact absurd H (by simp)
        · rw [if_neg c11] at H
          exact absurd H (by simp)
      · replace c7 := Bool.eq_false_iff.mpr c7
        subst c7
        have H1 : (if a0_6 = 0 then ((ether_put.f k (IntKind.u64.wrap ((a0_7.size : Int))) 2).bind fun t277 => (if (t270 ++ t271).size + t277.size ≤ 9223372036854775807 then (if ((t270 ++ t271) ++ t277).size + a0_7.size ≤ 9223372036854775807 then (some (((t270 ++ t271) ++ t277) ++ a0_7, 0)) else (none)) else (none))) else ((ether_put.f k (IntKind.u64.wrap (a0_6)) 2).bind fun t278 => (if (t270 ++ t271).size + t278.size ≤ 9223372036854775807 then (if ((t270 ++ t271) ++ t278).size + a0_7.size ≤ 9223372036854775807 then (some (((t270 ++ t271) ++ t278) ++ a0_7, 0)) else (none)) else (none)))) = some (r1, r2) := by rw [if_neg (show ¬ (false = true) by decide)] at H; exact H
        clear H
        have H := H1
        clear H1
        by_cases c48 : a0_6 = 0
        · rw [if_pos c48] at H
          have c48b0 : (a0_6 == 0) = true := beq_iff_eq.mpr c48
          have c48b1 : (a0_6 != 0) = false := bne_eq_false_iff_eq.mpr c48
          clear c48
          replace H := Option.bind_eq_some_iff.mp H
          obtain ⟨t277, A490, H⟩ := H
          replace H : (if (t270 ++ t271).size + t277.size ≤ 9223372036854775807 then (if ((t270 ++ t271) ++ t277).size + a0_7.size ≤ 9223372036854775807 then (some (((t270 ++ t271) ++ t277) ++ a0_7, 0)) else (none)) else (none)) = some (r1, r2) := H
          have A49 := Aside0.mk A490
          clear A490
          by_cases c50 : (t270 ++ t271).size + t277.size ≤ 9223372036854775807
          · rw [if_pos c50] at H
            have c50b0 := eq_true c50
            have c50b1 : decide ((t270 ++ t271).size + t277.size ≤ 9223372036854775807) = true := decide_eq_true c50
            have c50z := c50
            simp only [ByteArray.size_append] at c50z
            have c50z1 := eq_true c50z
            have c50z2 := eq_false (Nat.not_lt.2 c50z)
            try have c50b2 : (9223372036854775807 < (t270 ++ t271).size + t277.size) = False := eq_false (Nat.not_lt.2 c50)
            by_cases c51 : ((t270 ++ t271) ++ t277).size + a0_7.size ≤ 9223372036854775807
            · rw [if_pos c51] at H
              have c51b0 := eq_true c51
              have c51b1 : decide (((t270 ++ t271) ++ t277).size + a0_7.size ≤ 9223372036854775807) = true := decide_eq_true c51
              have c51z := c51
              simp only [ByteArray.size_append] at c51z
              have c51z1 := eq_true c51z
              have c51z2 := eq_false (Nat.not_lt.2 c51z)
              try have c51b2 : (9223372036854775807 < ((t270 ++ t271) ++ t277).size + a0_7.size) = False := eq_false (Nat.not_lt.2 c51)
              simp only [Option.some.injEq, Prod.mk.injEq] at H
              obtain ⟨rfl, rfl⟩ := H
              go_enter Tryd.func18, Tryd.ntmps18
              try go_wp2_with (first | ((with_reducible refine gate_dst (N := 1) rfl ?_); refine box_event ?hg (N := 1) ?hd (cs := #[.int .u64 a0_0, .int .u64 a0_1, .bool false, .int .i64 a0_3, .bool a0_4, .int .i64 a0_5, .int .i64 a0_6, .string a0_7]) (t := 40) ?hr ?_; (case hd => rfl); (case hg => rfl); (case hr => first | (go_simp; done) | (go_simp; rfl)); intro gb268 hg w52 hbox hb; have n0_ := Aside0.mk (below_step (by repeat (first | (with_reducible first | exact HB.out | apply below_alloc | apply pw_below_drewN | apply below_drew1) | exact HB.out)) hb); have n1_ := Aside0.mk (hbox); have n2_ := Aside0.mk ((by rw [hg]; exact (below_size (by repeat (first | (with_reducible first | exact HB.out | apply below_alloc | apply pw_below_drewN | apply below_drew1) | exact HB.out))) : w.heap.size ≤ gb268)); have n3_ := Aside0.mk ((by rw [hg]; exact (below_size (by repeat (first | (with_reducible first | exact HB.out | apply below_alloc | apply pw_below_drewN | apply below_drew1) | exact HB.out))) : w.heap.size ≤ gb268)); clear HB; have HB := n0_; have BK268 := n1_; have GW268 := n2_; have GE268 := n3_; clear n0_ n1_ n2_ n3_; clear hb hbox hg; have hcz53_0 : w52.cell? ⟨gb268, 0, none⟩ = some (.int .u64 a0_0) := (blk_cell BK268.out 0).trans rfl; have hcz53_1 : w52.cell? ⟨gb268, 1, none⟩ = some (.int .u64 a0_1) := (blk_cell BK268.out 1).trans rfl; have hcz53_2 : w52.cell? ⟨gb268, 2, none⟩ = some (.bool false) := (blk_cell BK268.out 2).trans rfl; have hcz53_3 : w52.cell? ⟨gb268, 3, none⟩ = some (.int .i64 a0_3) := (blk_cell BK268.out 3).trans rfl; have hcz53_4 : w52.cell? ⟨gb268, 4, none⟩ = some (.bool a0_4) := (blk_cell BK268.out 4).trans rfl; have hcz53_5 : w52.cell? ⟨gb268, 5, none⟩ = some (.int .i64 a0_5) := (blk_cell BK268.out 5).trans rfl; have hcz53_6 : w52.cell? ⟨gb268, 6, none⟩ = some (.int .i64 a0_6) := (blk_cell BK268.out 6).trans rfl; have hcz53_7 : w52.cell? ⟨gb268, 7, none⟩ = some (.string a0_7) := (blk_cell BK268.out 7).trans rfl; have hfz53_0 := blk_frozen BK268.out 0; have hfz53_1 := blk_frozen BK268.out 1; have hfz53_2 := blk_frozen BK268.out 2; have hfz53_3 := blk_frozen BK268.out 3; have hfz53_4 := blk_frozen BK268.out 4; have hfz53_5 := blk_frozen BK268.out 5; have hfz53_6 := blk_frozen BK268.out 6; have hfz53_7 := blk_frozen BK268.out 7) | ((with_reducible refine gate_callee (f := 27) rfl ?_); refine goesL_ (some 8) rfl rfl Tryd.func27 (by kernel_rfl) rfl #[.agg #[.int .u64 a0_0, .int .u64 a0_1, .bool false, .int .i64 a0_3, .bool a0_4, .int .i64 a0_5, .int .i64 a0_6, .string a0_7]] rfl (by (try simp only [List.map_toArray, List.map_cons, List.map_nil]); first | done | rfl | (simp only [List.length_drop, List.length_take]; rfl)) ?_; (with_reducible refine (ether_Check.calls k a0_0 a0_1 false a0_3 a0_4 a0_5 a0_6 a0_7 t269 _ A2.out).mono ?_); rintro e w54 ⟨rfl, hb⟩; refine ⟨_, rfl, ?_⟩; have n0_ := Aside0.mk (blk_below (g := gb268) (o := .cells #[.int .u64 a0_0, .int .u64 a0_1, .bool false, .int .i64 a0_3, .bool a0_4, .int .i64 a0_5, .int .i64 a0_6, .string a0_7] 40 (0, 0)) (by (with_reducible repeat (first | refine blk_drewN ?_ _ | refine blk_drew ?_ | refine blk_alloc ?_ _)); exact BK268.out) hb); have n1_ := Aside0.mk (below_step (by repeat (first | (with_reducible first | exact HB.out | apply below_alloc | apply pw_below_drewN | apply below_drew1 | refine below_set ?_ GE268.out) | exact HB.out)) hb); clear BK268; clear HB; have BK268 := n0_; have HB := n1_; clear n0_ n1_; have hcy1_268_0 := (show World.cell? _ ⟨gb268, 0, none⟩ = some (.int .u64 a0_0) from (blk_cell BK268.out 0).trans rfl); have hcy1_268_1 := (show World.cell? _ ⟨gb268, 1, none⟩ = some (.int .u64 a0_1) from (blk_cell BK268.out 1).trans rfl); have hcy1_268_2 := (show World.cell? _ ⟨gb268, 2, none⟩ = some (.bool false) from (blk_cell BK268.out 2).trans rfl); have hcy1_268_3 := (show World.cell? _ ⟨gb268, 3, none⟩ = some (.int .i64 a0_3) from (blk_cell BK268.out 3).trans rfl); have hcy1_268_4 := (show World.cell? _ ⟨gb268, 4, none⟩ = some (.bool a0_4) from (blk_cell BK268.out 4).trans rfl); have hcy1_268_5 := (show World.cell? _ ⟨gb268, 5, none⟩ = some (.int .i64 a0_5) from (blk_cell BK268.out 5).trans rfl); have hcy1_268_6 := (show World.cell? _ ⟨gb268, 6, none⟩ = some (.int .i64 a0_6) from (blk_cell BK268.out 6).trans rfl); have hcy1_268_7 := (show World.cell? _ ⟨gb268, 7, none⟩ = some (.string a0_7) from (blk_cell BK268.out 7).trans rfl); (try clear hb); (try clear hb2); (try clear hk); (try clear hi)))
              have n0_ := Aside0.mk (blk_drew BK268.out)
              have n1_ := Aside0.mk (below_drew1 HB.out)
              clear BK268
              clear HB
              have BK268 := n0_
              have HB := n1_
              clear n0_ n1_
              refine start_ (n := 8) (S := fun w' => w'.cell? ⟨gb268, 0, none⟩ = some (.int .u64 a0_0) ∧ w'.cell? ⟨gb268, 1, none⟩ = some (.int .u64 a0_1) ∧ w'.cell? ⟨gb268, 2, none⟩ = some (.bool false) ∧ w'.cell? ⟨gb268, 3, none⟩ = some (.int .i64 a0_3) ∧ w'.cell? ⟨gb268, 4, none⟩ = some (.bool a0_4) ∧ w'.cell? ⟨gb268, 5, none⟩ = some (.int .i64 a0_5) ∧ w'.cell? ⟨gb268, 6, none⟩ = some (.int .i64 a0_6) ∧ w'.cell? ⟨gb268, 7, none⟩ = some (.string a0_7)) (ds := []) #[false, false, false, false, false, false, false, false] (by kernel_rfl) rfl rfl ⟨(blk_cell BK268.out 0).trans rfl, (blk_cell BK268.out 1).trans rfl, (blk_cell BK268.out 2).trans rfl, (blk_cell BK268.out 3).trans rfl, (blk_cell BK268.out 4).trans rfl, (blk_cell BK268.out 5).trans rfl, (blk_cell BK268.out 6).trans rfl, (blk_cell BK268.out 7).trans rfl⟩ (fun hHeld => ?_); refine with_tabW ether_Build.tab4 ether_Build.bits4 (fun HT_ HW_ => ?_)
              generalize w54.drew = w55 at BK268 HB hHeld ⊢
              refine pure_ (i := 0) (N := some 12) (v := ?_) (a' := ?_) #[true, false, false, false, false, false, false, false] rfl rfl (any_of HT_.out (by kernel_rfl)) (fun _ _ _ h => h) (Or.inl ⟨by rfl, ?_⟩) ?_ ?_
              rotate_left
              · intro w'
                go_simp
                first | with_reducible rfl | (rw [if_neg (by have hz0_ : (⟨#[]⟩ : ByteArray).size = 0 := rfl; (try simp only [decide_eq_true_eq, ByteArray.size_append, ByteArray.size_extract, eq_iff_iff, iff_true, iff_false, Nat.not_lt] at *); omega)]; try with_reducible rfl)
              rotate_left
              · simp only [Act.put, List.setIfInBounds_toArray, List.set_cons_zero, List.set_cons_succ, i64_w, i32_w]
                rfl
              refine pure_ (i := 3) (N := some 15) (v := ?_) (a' := ?_) #[true, false, false, true, false, false, false, false] rfl rfl (any_of HT_.out (by kernel_rfl)) (fun _ _ _ h => h) (Or.inl ⟨by rfl, ?_⟩) ?_ ?_
              rotate_left
              · intro w'
                go_simp
                first | with_reducible rfl | (rw [if_neg (by have hz0_ : (⟨#[]⟩ : ByteArray).size = 0 := rfl; (try simp only [decide_eq_true_eq, ByteArray.size_append, ByteArray.size_extract, eq_iff_iff, iff_true, iff_false, Nat.not_lt] at *); omega)]; try with_reducible rfl)
              rotate_left
              · simp only [Act.put, List.setIfInBounds_toArray, List.set_cons_zero, List.set_cons_succ, i64_w, i32_w]
                rfl
              refine take_ (i := 1) (N := some 13) (v := ?_) (a' := ?_) #[true, true, false, true, false, false, false, false] rfl rfl (take_ofW HT_.out HW_.out (by kernel_rfl)) (fun _ _ _ h => h) (Or.inl ⟨by rfl, ?_⟩) hHeld ?_ ?_
              rotate_left
              · rintro w' ⟨s0, s1, s2, s3, s4, s5, s6, s7⟩
                go_simp
                with_reducible rfl
              rotate_left
              · simp only [Act.put, List.setIfInBounds_toArray, List.set_cons_zero, List.set_cons_succ, i64_w, i32_w]
                rfl
              refine take_ (i := 4) (N := some 16) (v := ?_) (a' := ?_) #[true, true, false, true, true, false, false, false] rfl rfl (take_ofW HT_.out HW_.out (by kernel_rfl)) (fun _ _ _ h => h) (Or.inl ⟨by rfl, ?_⟩) hHeld ?_ ?_
              rotate_left
              · rintro w' ⟨s0, s1, s2, s3, s4, s5, s6, s7⟩
                go_simp
                with_reducible rfl
              rotate_left
              · simp only [Act.put, List.setIfInBounds_toArray, List.set_cons_zero, List.set_cons_succ, i64_w, i32_w]
                rfl
              refine one_ (i := 2) (N := some 14) #[true, true, true, true, true, false, false, false] rfl rfl (one_of HT_.out (by kernel_rfl)) (by decide) (fun K hK => ?_)
              refine goes_ Tryd.func28 (by kernel_rfl) rfl #[.int .u64 a0_0, .int .i64 6] (by first | rfl | exact wanted_on rfl rfl rfl (by first | rfl | (simp [*]; done) | (simp [*, IntKind.wrap_u32]; done))) rfl rfl (by (try simp only [List.map_toArray, List.map_cons, List.map_nil]); first | done | rfl | (simp only [List.length_drop, List.length_take]; rfl)) ?_
              with_reducible refine (ether_put.calls k a0_0 6 t270 _ A4.out).mono ?_
              rintro e w56 ⟨rfl, hb⟩
              refine ⟨_, rfl, ?_⟩
              have n0_ := Aside0.mk (blk_below (g := gb268) (o := .cells #[.int .u64 a0_0, .int .u64 a0_1, .bool false, .int .i64 a0_3, .bool a0_4, .int .i64 a0_5, .int .i64 a0_6, .string a0_7] 40 (0, 0)) (by (with_reducible repeat (first | refine blk_drewN ?_ _ | refine blk_drew ?_ | refine blk_alloc ?_ _)); exact BK268.out) hb)
              have n1_ := Aside0.mk (below_step (by repeat (first | (with_reducible first | exact HB.out | apply below_alloc | apply pw_below_drewN | apply below_drew1 | refine below_set ?_ GE268.out) | exact HB.out)) hb)
              clear BK268
              clear HB
              have BK268 := n0_
              have HB := n1_
              clear n0_ n1_
              (try clear hb)
              (try clear hb2)
              (try clear hk)
              (try clear hi)
              refine hK.out _ _ ⟨(blk_cell BK268.out 0).trans rfl, (blk_cell BK268.out 1).trans rfl, (blk_cell BK268.out 2).trans rfl, (blk_cell BK268.out 3).trans rfl, (blk_cell BK268.out 4).trans rfl, (blk_cell BK268.out 5).trans rfl, (blk_cell BK268.out 6).trans rfl, (blk_cell BK268.out 7).trans rfl⟩ (fun hHeld => ?_)
              clear hK K
              refine norm_ (a' := ?_) ?_ ?_
              rotate_left
              · show Act.put _ (some 14) _ = _
                simp only [Act.put, List.setIfInBounds_toArray, List.set_cons_zero, List.set_cons_succ, i64_w, i32_w]
                rfl
              refine one_ (i := 5) (N := some 17) #[true, true, true, true, true, true, false, false] rfl rfl (one_of HT_.out (by kernel_rfl)) (by decide) (fun K hK => ?_)
              refine goes_ Tryd.func28 (by kernel_rfl) rfl #[.int .u64 a0_1, .int .i64 6] (by first | rfl | exact wanted_on rfl rfl rfl (by first | rfl | (simp [*]; done) | (simp [*, IntKind.wrap_u32]; done))) rfl rfl (by (try simp only [List.map_toArray, List.map_cons, List.map_nil]); first | done | rfl | (simp only [List.length_drop, List.length_take]; rfl)) ?_
              with_reducible refine (ether_put.calls k a0_1 6 t271 _ A5.out).mono ?_
              rintro e w57 ⟨rfl, hb⟩
              refine ⟨_, rfl, ?_⟩
              have n0_ := Aside0.mk (blk_below (g := gb268) (o := .cells #[.int .u64 a0_0, .int .u64 a0_1, .bool false, .int .i64 a0_3, .bool a0_4, .int .i64 a0_5, .int .i64 a0_6, .string a0_7] 40 (0, 0)) (by (with_reducible repeat (first | refine blk_drewN ?_ _ | refine blk_drew ?_ | refine blk_alloc ?_ _)); exact BK268.out) hb)
              have n1_ := Aside0.mk (below_step (by repeat (first | (with_reducible first | exact HB.out | apply below_alloc | apply pw_below_drewN | apply below_drew1 | refine below_set ?_ GE268.out) | exact HB.out)) hb)
              clear BK268
              clear HB
              have BK268 := n0_
              have HB := n1_
              clear n0_ n1_
              (try clear hb)
              (try clear hb2)
              (try clear hk)
              (try clear hi)
              refine hK.out _ _ ⟨(blk_cell BK268.out 0).trans rfl, (blk_cell BK268.out 1).trans rfl, (blk_cell BK268.out 2).trans rfl, (blk_cell BK268.out 3).trans rfl, (blk_cell BK268.out 4).trans rfl, (blk_cell BK268.out 5).trans rfl, (blk_cell BK268.out 6).trans rfl, (blk_cell BK268.out 7).trans rfl⟩ (fun hHeld => ?_)
              clear hK K
              refine norm_ (a' := ?_) ?_ ?_
              rotate_left
              · show Act.put _ (some 17) _ = _
                simp only [Act.put, List.setIfInBounds_toArray, List.set_cons_zero, List.set_cons_succ, i64_w, i32_w]
                rfl
              refine pure_ (i := 6) (N := some 18) (v := ?_) (a' := ?_) #[true, true, true, true, true, true, true, false] rfl rfl (any_of HT_.out (by kernel_rfl)) (fun _ _ _ h => h) (Or.inl ⟨by rfl, ?_⟩) ?_ ?_
              rotate_left
              · intro w'
                go_simp
                first | with_reducible rfl | (rw [if_neg (by have hz0_ : (⟨#[]⟩ : ByteArray).size = 0 := rfl; (try simp only [decide_eq_true_eq, ByteArray.size_append, ByteArray.size_extract, eq_iff_iff, iff_true, iff_false, Nat.not_lt] at *); omega)]; try with_reducible rfl)
              rotate_left
              · simp only [Act.put, List.setIfInBounds_toArray, List.set_cons_zero, List.set_cons_succ, i64_w, i32_w]
                rfl
              refine pure_ (i := 7) (N := some 5) (v := ?_) (a' := ?_) #[true, true, true, true, true, true, true, true] rfl rfl (any_of HT_.out (by kernel_rfl)) (fun _ _ _ h => h) (Or.inl ⟨by rfl, ?_⟩) ?_ ?_
              rotate_left
              · intro w'
                go_simp
                first | with_reducible rfl | (rw [if_neg (by have hz0_ : (⟨#[]⟩ : ByteArray).size = 0 := rfl; (try simp only [decide_eq_true_eq, ByteArray.size_append, ByteArray.size_extract, eq_iff_iff, iff_true, iff_false, Nat.not_lt] at *); omega)]; try with_reducible rfl)
              rotate_left
              · simp only [Act.put, List.setIfInBounds_toArray, List.set_cons_zero, List.set_cons_succ, i64_w, i32_w]
                rfl
              refine done_ (done_of HT_.out (by kernel_rfl)) ?_
              have hcz58_0 : w57.cell? ⟨gb268, 0, none⟩ = some (.int .u64 a0_0) := (blk_cell BK268.out 0).trans rfl
              have hcz58_1 : w57.cell? ⟨gb268, 1, none⟩ = some (.int .u64 a0_1) := (blk_cell BK268.out 1).trans rfl
              have hcz58_2 : w57.cell? ⟨gb268, 2, none⟩ = some (.bool false) := (blk_cell BK268.out 2).trans rfl
              have hcz58_3 : w57.cell? ⟨gb268, 3, none⟩ = some (.int .i64 a0_3) := (blk_cell BK268.out 3).trans rfl
              have hcz58_4 : w57.cell? ⟨gb268, 4, none⟩ = some (.bool a0_4) := (blk_cell BK268.out 4).trans rfl
              have hcz58_5 : w57.cell? ⟨gb268, 5, none⟩ = some (.int .i64 a0_5) := (blk_cell BK268.out 5).trans rfl
              have hcz58_6 : w57.cell? ⟨gb268, 6, none⟩ = some (.int .i64 a0_6) := (blk_cell BK268.out 6).trans rfl
              have hcz58_7 : w57.cell? ⟨gb268, 7, none⟩ = some (.string a0_7) := (blk_cell BK268.out 7).trans rfl
              have hfz58_0 := blk_frozen BK268.out 0
              have hfz58_1 := blk_frozen BK268.out 1
              have hfz58_2 := blk_frozen BK268.out 2
              have hfz58_3 := blk_frozen BK268.out 3
              have hfz58_4 := blk_frozen BK268.out 4
              have hfz58_5 := blk_frozen BK268.out 5
              have hfz58_6 := blk_frozen BK268.out 6
              have hfz58_7 := blk_frozen BK268.out 7
              try go_wp2
              have n0_ := Aside0.mk (blk_drew BK268.out)
              have n1_ := Aside0.mk (below_drew1 HB.out)
              clear BK268
              clear HB
              have BK268 := n0_
              have HB := n1_
              clear n0_ n1_
              refine start_ (n := 10) (S := fun w' => w'.cell? ⟨gb268, 0, none⟩ = some (.int .u64 a0_0) ∧ w'.cell? ⟨gb268, 1, none⟩ = some (.int .u64 a0_1) ∧ w'.cell? ⟨gb268, 2, none⟩ = some (.bool false) ∧ w'.cell? ⟨gb268, 3, none⟩ = some (.int .i64 a0_3) ∧ w'.cell? ⟨gb268, 4, none⟩ = some (.bool a0_4) ∧ w'.cell? ⟨gb268, 5, none⟩ = some (.int .i64 a0_5) ∧ w'.cell? ⟨gb268, 6, none⟩ = some (.int .i64 a0_6) ∧ w'.cell? ⟨gb268, 7, none⟩ = some (.string a0_7)) (ds := []) #[false, false, false, false, false, false, false, false, false, false] (by kernel_rfl) rfl rfl ⟨(blk_cell BK268.out 0).trans rfl, (blk_cell BK268.out 1).trans rfl, (blk_cell BK268.out 2).trans rfl, (blk_cell BK268.out 3).trans rfl, (blk_cell BK268.out 4).trans rfl, (blk_cell BK268.out 5).trans rfl, (blk_cell BK268.out 6).trans rfl, (blk_cell BK268.out 7).trans rfl⟩ (fun hHeld => ?_); refine with_tabW ether_Build.tab10 ether_Build.bits10 (fun HT_ HW_ => ?_)
              generalize w57.drew = w59 at BK268 HB hHeld ⊢
              refine pure_ (i := 0) (N := some 37) (v := ?_) (a' := ?_) #[true, false, false, false, false, false, false, false, false, false] rfl rfl (any_of HT_.out (by kernel_rfl)) (fun _ _ _ h => h) (Or.inl ⟨by rfl, ?_⟩) ?_ ?_
              rotate_left
              · intro w'
                go_simp
                first | with_reducible rfl | (rw [if_neg (by have hz0_ : (⟨#[]⟩ : ByteArray).size = 0 := rfl; (try simp only [decide_eq_true_eq, ByteArray.size_append, ByteArray.size_extract, eq_iff_iff, iff_true, iff_false, Nat.not_lt] at *); omega)]; try with_reducible rfl)
              rotate_left
              · simp only [Act.put, List.setIfInBounds_toArray, List.set_cons_zero, List.set_cons_succ, i64_w, i32_w]
                rfl
              refine pure_ (i := 1) (N := some 38) (v := ?_) (a' := ?_) #[true, true, false, false, false, false, false, false, false, false] rfl rfl (any_of HT_.out (by kernel_rfl)) (fun _ _ _ h => h) (Or.inl ⟨by rfl, ?_⟩) ?_ ?_
              rotate_left
              · intro w'
                go_simp
                first | with_reducible rfl | (rw [if_neg (by have hz0_ : (⟨#[]⟩ : ByteArray).size = 0 := rfl; (try simp only [decide_eq_true_eq, ByteArray.size_append, ByteArray.size_extract, eq_iff_iff, iff_true, iff_false, Nat.not_lt] at *); omega)]; try with_reducible rfl)
              rotate_left
              · simp only [Act.put, List.setIfInBounds_toArray, List.set_cons_zero, List.set_cons_succ, i64_w, i32_w]
                rfl
              refine pure_ (i := 2) (N := some 39) (v := ?_) (a' := ?_) #[true, true, true, false, false, false, false, false, false, false] rfl rfl (any_of HT_.out (by kernel_rfl)) (fun _ _ _ h => h) (Or.inl ⟨by rfl, ?_⟩) ?_ ?_
              rotate_left
              · intro w'
                go_simp
                first | with_reducible rfl | (rw [if_neg (by have hz0_ : (⟨#[]⟩ : ByteArray).size = 0 := rfl; (try simp only [decide_eq_true_eq, ByteArray.size_append, ByteArray.size_extract, eq_iff_iff, iff_true, iff_false, Nat.not_lt] at *); omega)]; try with_reducible rfl)
              rotate_left
              · simp only [Act.put, List.setIfInBounds_toArray, List.set_cons_zero, List.set_cons_succ, i64_w, i32_w]
                rfl
              refine pure_ (i := 5) (N := some 42) (v := ?_) (a' := ?_) #[true, true, true, false, false, true, false, false, false, false] rfl rfl (any_of HT_.out (by kernel_rfl)) (fun _ _ _ h => h) (Or.inl ⟨by rfl, ?_⟩) ?_ ?_
              rotate_left
              · intro w'
                go_simp
                first | with_reducible rfl | (rw [if_neg (by have hz0_ : (⟨#[]⟩ : ByteArray).size = 0 := rfl; (try simp only [decide_eq_true_eq, ByteArray.size_append, ByteArray.size_extract, eq_iff_iff, iff_true, iff_false, Nat.not_lt] at *); omega)]; try with_reducible rfl)
              rotate_left
              · simp only [Act.put, List.setIfInBounds_toArray, List.set_cons_zero, List.set_cons_succ, i64_w, i32_w]
                rfl
              refine take_ (i := 6) (N := some 43) (v := ?_) (a' := ?_) #[true, true, true, false, false, true, true, false, false, false] rfl rfl (take_ofW HT_.out HW_.out (by kernel_rfl)) (fun _ _ _ h => h) (Or.inl ⟨by rfl, ?_⟩) hHeld ?_ ?_
              rotate_left
              · rintro w' ⟨s0, s1, s2, s3, s4, s5, s6, s7⟩
                go_simp
                with_reducible rfl
              rotate_left
              · simp only [Act.put, List.setIfInBounds_toArray, List.set_cons_zero, List.set_cons_succ, i64_w, i32_w]
                rfl
              refine one_ (i := 3) (N := some 40) #[true, true, true, true, false, true, true, false, false, false] rfl rfl (one_of HT_.out (by kernel_rfl)) (by decide) (fun K hK => ?_)
              refine goes_ Tryd.func28 (by kernel_rfl) rfl #[.int .u64 (IntKind.u64.wrap ((a0_7.size : Int))), .int .i64 2] (by first | rfl | exact wanted_on rfl rfl rfl (by first | rfl | (simp [*]; done) | (simp [*, IntKind.wrap_u32]; done))) rfl rfl (by (try simp only [List.map_toArray, List.map_cons, List.map_nil]); first | done | rfl | (simp only [List.length_drop, List.length_take]; rfl)) ?_
              with_reducible refine (ether_put.calls k (IntKind.u64.wrap ((a0_7.size : Int))) 2 t277 _ A49.out).mono ?_
              rintro e w60 ⟨rfl, hb⟩
              refine ⟨_, rfl, ?_⟩
              have n0_ := Aside0.mk (blk_below (g := gb268) (o := .cells #[.int .u64 a0_0, .int .u64 a0_1, .bool false, .int .i64 a0_3, .bool a0_4, .int .i64 a0_5, .int .i64 a0_6, .string a0_7] 40 (0, 0)) (by (with_reducible repeat (first | refine blk_drewN ?_ _ | refine blk_drew ?_ | refine blk_alloc ?_ _)); exact BK268.out) hb)
              have n1_ := Aside0.mk (below_step (by repeat (first | (with_reducible first | exact HB.out | apply below_alloc | apply pw_below_drewN | apply below_drew1 | refine below_set ?_ GE268.out) | exact HB.out)) hb)
              clear BK268
              clear HB
              have BK268 := n0_
              have HB := n1_
              clear n0_ n1_
              (try clear hb)
              (try clear hb2)
              (try clear hk)
              (try clear hi)
              refine hK.out _ _ ⟨(blk_cell BK268.out 0).trans rfl, (blk_cell BK268.out 1).trans rfl, (blk_cell BK268.out 2).trans rfl, (blk_cell BK268.out 3).trans rfl, (blk_cell BK268.out 4).trans rfl, (blk_cell BK268.out 5).trans rfl, (blk_cell BK268.out 6).trans rfl, (blk_cell BK268.out 7).trans rfl⟩ (fun hHeld => ?_)
              clear hK K
              refine norm_ (a' := ?_) ?_ ?_
              rotate_left
              · show Act.put _ (some 40) _ = _
                simp only [Act.put, List.setIfInBounds_toArray, List.set_cons_zero, List.set_cons_succ, i64_w, i32_w]
                rfl
              refine pure_ (i := 4) (N := some 41) (v := ?_) (a' := ?_) #[true, true, true, true, true, true, true, false, false, false] rfl rfl (any_of HT_.out (by kernel_rfl)) (fun _ _ _ h => h) (Or.inl ⟨by rfl, ?_⟩) ?_ ?_
              rotate_left
              · intro w'
                go_simp
                first | with_reducible rfl | (rw [if_neg (by have hz0_ : (⟨#[]⟩ : ByteArray).size = 0 := rfl; (try simp only [decide_eq_true_eq, ByteArray.size_append, ByteArray.size_extract, eq_iff_iff, iff_true, iff_false, Nat.not_lt] at *); omega)]; try with_reducible rfl)
              rotate_left
              · simp only [Act.put, List.setIfInBounds_toArray, List.set_cons_zero, List.set_cons_succ, i64_w, i32_w]
                rfl
              refine pure_ (i := 7) (N := some 44) (v := ?_) (a' := ?_) #[true, true, true, true, true, true, true, true, false, false] rfl rfl (any_of HT_.out (by kernel_rfl)) (fun _ _ _ h => h) (Or.inl ⟨by rfl, ?_⟩) ?_ ?_
              rotate_left
              · intro w'
                go_simp
                first | with_reducible rfl | (rw [if_neg (by have hz0_ : (⟨#[]⟩ : ByteArray).size = 0 := rfl; (try simp only [decide_eq_true_eq, ByteArray.size_append, ByteArray.size_extract, eq_iff_iff, iff_true, iff_false, Nat.not_lt] at *); omega)]; try with_reducible rfl)
              rotate_left
              · simp only [Act.put, List.setIfInBounds_toArray, List.set_cons_zero, List.set_cons_succ, i64_w, i32_w]
                rfl
              refine pure_ (i := 8) (N := some 2) (v := ?_) (a' := ?_) #[true, true, true, true, true, true, true, true, true, false] rfl rfl (any_of HT_.out (by kernel_rfl)) (fun _ _ _ h => h) (Or.inl ⟨by rfl, ?_⟩) ?_ ?_
              rotate_left
              · intro w'
                go_simp
                first | with_reducible rfl | (rw [if_neg (by have hz0_ : (⟨#[]⟩ : ByteArray).size = 0 := rfl; (try simp only [decide_eq_true_eq, ByteArray.size_append, ByteArray.size_extract, eq_iff_iff, iff_true, iff_false, Nat.not_lt] at *); omega)]; try with_reducible rfl)
              rotate_left
              · simp only [Act.put, List.setIfInBounds_toArray, List.set_cons_zero, List.set_cons_succ, i64_w, i32_w]
                rfl
              refine pure_ (i := 9) (N := some 3) (v := ?_) (a' := ?_) #[true, true, true, true, true, true, true, true, true, true] rfl rfl (any_of HT_.out (by kernel_rfl)) (fun _ _ _ h => h) (Or.inl ⟨by rfl, ?_⟩) ?_ ?_
              rotate_left
              · intro w'
                go_simp
                first | with_reducible rfl | (rw [if_neg (by have hz0_ : (⟨#[]⟩ : ByteArray).size = 0 := rfl; (try simp only [decide_eq_true_eq, ByteArray.size_append, ByteArray.size_extract, eq_iff_iff, iff_true, iff_false, Nat.not_lt] at *); omega)]; try with_reducible rfl)
              rotate_left
              · simp only [Act.put, List.setIfInBounds_toArray, List.set_cons_zero, List.set_cons_succ, i64_w, i32_w]
                rfl
              refine done_ (done_of HT_.out (by kernel_rfl)) ?_
              try go_wp2
              go_ret2
              exact ⟨by first | rfl | (simp [errW_none, errW_some] <;> rfl) | (simp [*, errW_none, errW_some] <;> rfl) | (simp [*, IntKind.wrap_u32]; done) | (simp_all [IntKind.wrap_u32]; done), by repeat (first | (with_reducible first | exact HB.out | apply below_alloc | apply pw_below_drewN | apply below_drew1 | refine below_set ?_ GE268.out) | exact HB.out)⟩
            · rw [if_neg c51] at H
              exact absurd H (by simp)
          · rw [if_neg c50] at H
            exact absurd H (by simp)
        · rw [if_neg c48] at H
          have c48b0 : (a0_6 == 0) = false := beq_eq_false_iff_ne.mpr c48
          have c48b1 : (a0_6 != 0) = true := bne_iff_ne.mpr c48
          replace H := Option.bind_eq_some_iff.mp H
          obtain ⟨t278, A610, H⟩ := H
          replace H : (if (t270 ++ t271).size + t278.size ≤ 9223372036854775807 then (if ((t270 ++ t271) ++ t278).size + a0_7.size ≤ 9223372036854775807 then (some (((t270 ++ t271) ++ t278) ++ a0_7, 0)) else (none)) else (none)) = some (r1, r2) := H
          have A61 := Aside0.mk A610
          clear A610
          by_cases c62 : (t270 ++ t271).size + t278.size ≤ 9223372036854775807
          · rw [if_pos c62] at H
            have c62b0 := eq_true c62
            have c62b1 : decide ((t270 ++ t271).size + t278.size ≤ 9223372036854775807) = true := decide_eq_true c62
            have c62z := c62
            simp only [ByteArray.size_append] at c62z
            have c62z1 := eq_true c62z
            have c62z2 := eq_false (Nat.not_lt.2 c62z)
            try have c62b2 : (9223372036854775807 < (t270 ++ t271).size + t278.size) = False := eq_false (Nat.not_lt.2 c62)
            by_cases c63 : ((t270 ++ t271) ++ t278).size + a0_7.size ≤ 9223372036854775807
            · rw [if_pos c63] at H
              have c63b0 := eq_true c63
              have c63b1 : decide (((t270 ++ t271) ++ t278).size + a0_7.size ≤ 9223372036854775807) = true := decide_eq_true c63
              have c63z := c63
              simp only [ByteArray.size_append] at c63z
              have c63z1 := eq_true c63z
              have c63z2 := eq_false (Nat.not_lt.2 c63z)
              try have c63b2 : (9223372036854775807 < ((t270 ++ t271) ++ t278).size + a0_7.size) = False := eq_false (Nat.not_lt.2 c63)
              simp only [Option.some.injEq, Prod.mk.injEq] at H
              obtain ⟨rfl, rfl⟩ := H
              go_enter Tryd.func18, Tryd.ntmps18
              try go_wp2_with (first | ((with_reducible refine gate_dst (N := 1) rfl ?_); refine box_event ?hg (N := 1) ?hd (cs := #[.int .u64 a0_0, .int .u64 a0_1, .bool false, .int .i64 a0_3, .bool a0_4, .int .i64 a0_5, .int .i64 a0_6, .string a0_7]) (t := 40) ?hr ?_; (case hd => rfl); (case hg => rfl); (case hr => first | (go_simp; done) | (go_simp; rfl)); intro gb268 hg w64 hbox hb; have n0_ := Aside0.mk (below_step (by repeat (first | (with_reducible first | exact HB.out | apply below_alloc | apply pw_below_drewN | apply below_drew1) | exact HB.out)) hb); have n1_ := Aside0.mk (hbox); have n2_ := Aside0.mk ((by rw [hg]; exact (below_size (by repeat (first | (with_reducible first | exact HB.out | apply below_alloc | apply pw_below_drewN | apply below_drew1) | exact HB.out))) : w.heap.size ≤ gb268)); have n3_ := Aside0.mk ((by rw [hg]; exact (below_size (by repeat (first | (with_reducible first | exact HB.out | apply below_alloc | apply pw_below_drewN | apply below_drew1) | exact HB.out))) : w.heap.size ≤ gb268)); clear HB; have HB := n0_; have BK268 := n1_; have GW268 := n2_; have GE268 := n3_; clear n0_ n1_ n2_ n3_; clear hb hbox hg; have hcz65_0 : w64.cell? ⟨gb268, 0, none⟩ = some (.int .u64 a0_0) := (blk_cell BK268.out 0).trans rfl; have hcz65_1 : w64.cell? ⟨gb268, 1, none⟩ = some (.int .u64 a0_1) := (blk_cell BK268.out 1).trans rfl; have hcz65_2 : w64.cell? ⟨gb268, 2, none⟩ = some (.bool false) := (blk_cell BK268.out 2).trans rfl; have hcz65_3 : w64.cell? ⟨gb268, 3, none⟩ = some (.int .i64 a0_3) := (blk_cell BK268.out 3).trans rfl; have hcz65_4 : w64.cell? ⟨gb268, 4, none⟩ = some (.bool a0_4) := (blk_cell BK268.out 4).trans rfl; have hcz65_5 : w64.cell? ⟨gb268, 5, none⟩ = some (.int .i64 a0_5) := (blk_cell BK268.out 5).trans rfl; have hcz65_6 : w64.cell? ⟨gb268, 6, none⟩ = some (.int .i64 a0_6) := (blk_cell BK268.out 6).trans rfl; have hcz65_7 : w64.cell? ⟨gb268, 7, none⟩ = some (.string a0_7) := (blk_cell BK268.out 7).trans rfl; have hfz65_0 := blk_frozen BK268.out 0; have hfz65_1 := blk_frozen BK268.out 1; have hfz65_2 := blk_frozen BK268.out 2; have hfz65_3 := blk_frozen BK268.out 3; have hfz65_4 := blk_frozen BK268.out 4; have hfz65_5 := blk_frozen BK268.out 5; have hfz65_6 := blk_frozen BK268.out 6; have hfz65_7 := blk_frozen BK268.out 7) | ((with_reducible refine gate_callee (f := 27) rfl ?_); refine goesL_ (some 8) rfl rfl Tryd.func27 (by kernel_rfl) rfl #[.agg #[.int .u64 a0_0, .int .u64 a0_1, .bool false, .int .i64 a0_3, .bool a0_4, .int .i64 a0_5, .int .i64 a0_6, .string a0_7]] rfl (by (try simp only [List.map_toArray, List.map_cons, List.map_nil]); first | done | rfl | (simp only [List.length_drop, List.length_take]; rfl)) ?_; (with_reducible refine (ether_Check.calls k a0_0 a0_1 false a0_3 a0_4 a0_5 a0_6 a0_7 t269 _ A2.out).mono ?_); rintro e w66 ⟨rfl, hb⟩; refine ⟨_, rfl, ?_⟩; have n0_ := Aside0.mk (blk_below (g := gb268) (o := .cells #[.int .u64 a0_0, .int .u64 a0_1, .bool false, .int .i64 a0_3, .bool a0_4, .int .i64 a0_5, .int .i64 a0_6, .string a0_7] 40 (0, 0)) (by (with_reducible repeat (first | refine blk_drewN ?_ _ | refine blk_drew ?_ | refine blk_alloc ?_ _)); exact BK268.out) hb); have n1_ := Aside0.mk (below_step (by repeat (first | (with_reducible first | exact HB.out | apply below_alloc | apply pw_below_drewN | apply below_drew1 | refine below_set ?_ GE268.out) | exact HB.out)) hb); clear BK268; clear HB; have BK268 := n0_; have HB := n1_; clear n0_ n1_; have hcy1_268_0 := (show World.cell? _ ⟨gb268, 0, none⟩ = some (.int .u64 a0_0) from (blk_cell BK268.out 0).trans rfl); have hcy1_268_1 := (show World.cell? _ ⟨gb268, 1, none⟩ = some (.int .u64 a0_1) from (blk_cell BK268.out 1).trans rfl); have hcy1_268_2 := (show World.cell? _ ⟨gb268, 2, none⟩ = some (.bool false) from (blk_cell BK268.out 2).trans rfl); have hcy1_268_3 := (show World.cell? _ ⟨gb268, 3, none⟩ = some (.int .i64 a0_3) from (blk_cell BK268.out 3).trans rfl); have hcy1_268_4 := (show World.cell? _ ⟨gb268, 4, none⟩ = some (.bool a0_4) from (blk_cell BK268.out 4).trans rfl); have hcy1_268_5 := (show World.cell? _ ⟨gb268, 5, none⟩ = some (.int .i64 a0_5) from (blk_cell BK268.out 5).trans rfl); have hcy1_268_6 := (show World.cell? _ ⟨gb268, 6, none⟩ = some (.int .i64 a0_6) from (blk_cell BK268.out 6).trans rfl); have hcy1_268_7 := (show World.cell? _ ⟨gb268, 7, none⟩ = some (.string a0_7) from (blk_cell BK268.out 7).trans rfl); (try clear hb); (try clear hb2); (try clear hk); (try clear hi)))
              have n0_ := Aside0.mk (blk_drew BK268.out)
              have n1_ := Aside0.mk (below_drew1 HB.out)
              clear BK268
              clear HB
              have BK268 := n0_
              have HB := n1_
              clear n0_ n1_
              refine start_ (n := 8) (S := fun w' => w'.cell? ⟨gb268, 0, none⟩ = some (.int .u64 a0_0) ∧ w'.cell? ⟨gb268, 1, none⟩ = some (.int .u64 a0_1) ∧ w'.cell? ⟨gb268, 2, none⟩ = some (.bool false) ∧ w'.cell? ⟨gb268, 3, none⟩ = some (.int .i64 a0_3) ∧ w'.cell? ⟨gb268, 4, none⟩ = some (.bool a0_4) ∧ w'.cell? ⟨gb268, 5, none⟩ = some (.int .i64 a0_5) ∧ w'.cell? ⟨gb268, 6, none⟩ = some (.int .i64 a0_6) ∧ w'.cell? ⟨gb268, 7, none⟩ = some (.string a0_7)) (ds := []) #[false, false, false, false, false, false, false, false] (by kernel_rfl) rfl rfl ⟨(blk_cell BK268.out 0).trans rfl, (blk_cell BK268.out 1).trans rfl, (blk_cell BK268.out 2).trans rfl, (blk_cell BK268.out 3).trans rfl, (blk_cell BK268.out 4).trans rfl, (blk_cell BK268.out 5).trans rfl, (blk_cell BK268.out 6).trans rfl, (blk_cell BK268.out 7).trans rfl⟩ (fun hHeld => ?_); refine with_tabW ether_Build.tab4 ether_Build.bits4 (fun HT_ HW_ => ?_)
              generalize w66.drew = w67 at BK268 HB hHeld ⊢
              refine pure_ (i := 0) (N := some 12) (v := ?_) (a' := ?_) #[true, false, false, false, false, false, false, false] rfl rfl (any_of HT_.out (by kernel_rfl)) (fun _ _ _ h => h) (Or.inl ⟨by rfl, ?_⟩) ?_ ?_
              rotate_left
              · intro w'
                go_simp
                first | with_reducible rfl | (rw [if_neg (by have hz0_ : (⟨#[]⟩ : ByteArray).size = 0 := rfl; (try simp only [decide_eq_true_eq, ByteArray.size_append, ByteArray.size_extract, eq_iff_iff, iff_true, iff_false, Nat.not_lt] at *); omega)]; try with_reducible rfl)
              rotate_left
              · simp only [Act.put, List.setIfInBounds_toArray, List.set_cons_zero, List.set_cons_succ, i64_w, i32_w]
                rfl
              refine pure_ (i := 3) (N := some 15) (v := ?_) (a' := ?_) #[true, false, false, true, false, false, false, false] rfl rfl (any_of HT_.out (by kernel_rfl)) (fun _ _ _ h => h) (Or.inl ⟨by rfl, ?_⟩) ?_ ?_
              rotate_left
              · intro w'
                go_simp
                first | with_reducible rfl | (rw [if_neg (by have hz0_ : (⟨#[]⟩ : ByteArray).size = 0 := rfl; (try simp only [decide_eq_true_eq, ByteArray.size_append, ByteArray.size_extract, eq_iff_iff, iff_true, iff_false, Nat.not_lt] at *); omega)]; try with_reducible rfl)
              rotate_left
              · simp only [Act.put, List.setIfInBounds_toArray, List.set_cons_zero, List.set_cons_succ, i64_w, i32_w]
                rfl
              refine take_ (i := 1) (N := some 13) (v := ?_) (a' := ?_) #[true, true, false, true, false, false, false, false] rfl rfl (take_ofW HT_.out HW_.out (by kernel_rfl)) (fun _ _ _ h => h) (Or.inl ⟨by rfl, ?_⟩) hHeld ?_ ?_
              rotate_left
              · rintro w' ⟨s0, s1, s2, s3, s4, s5, s6, s7⟩
                go_simp
                with_reducible rfl
              rotate_left
              · simp only [Act.put, List.setIfInBounds_toArray, List.set_cons_zero, List.set_cons_succ, i64_w, i32_w]
                rfl
              refine take_ (i := 4) (N := some 16) (v := ?_) (a' := ?_) #[true, true, false, true, true, false, false, false] rfl rfl (take_ofW HT_.out HW_.out (by kernel_rfl)) (fun _ _ _ h => h) (Or.inl ⟨by rfl, ?_⟩) hHeld ?_ ?_
              rotate_left
              · rintro w' ⟨s0, s1, s2, s3, s4, s5, s6, s7⟩
                go_simp
                with_reducible rfl
              rotate_left
              · simp only [Act.put, List.setIfInBounds_toArray, List.set_cons_zero, List.set_cons_succ, i64_w, i32_w]
                rfl
              refine one_ (i := 2) (N := some 14) #[true, true, true, true, true, false, false, false] rfl rfl (one_of HT_.out (by kernel_rfl)) (by decide) (fun K hK => ?_)
              refine goes_ Tryd.func28 (by kernel_rfl) rfl #[.int .u64 a0_0, .int .i64 6] (by first | rfl | exact wanted_on rfl rfl rfl (by first | rfl | (simp [*]; done) | (simp [*, IntKind.wrap_u32]; done))) rfl rfl (by (try simp only [List.map_toArray, List.map_cons, List.map_nil]); first | done | rfl | (simp only [List.length_drop, List.length_take]; rfl)) ?_
              with_reducible refine (ether_put.calls k a0_0 6 t270 _ A4.out).mono ?_
              rintro e w68 ⟨rfl, hb⟩
              refine ⟨_, rfl, ?_⟩
              have n0_ := Aside0.mk (blk_below (g := gb268) (o := .cells #[.int .u64 a0_0, .int .u64 a0_1, .bool false, .int .i64 a0_3, .bool a0_4, .int .i64 a0_5, .int .i64 a0_6, .string a0_7] 40 (0, 0)) (by (with_reducible repeat (first | refine blk_drewN ?_ _ | refine blk_drew ?_ | refine blk_alloc ?_ _)); exact BK268.out) hb)
              have n1_ := Aside0.mk (below_step (by repeat (first | (with_reducible first | exact HB.out | apply below_alloc | apply pw_below_drewN | apply below_drew1 | refine below_set ?_ GE268.out) | exact HB.out)) hb)
              clear BK268
              clear HB
              have BK268 := n0_
              have HB := n1_
              clear n0_ n1_
              (try clear hb)
              (try clear hb2)
              (try clear hk)
              (try clear hi)
              refine hK.out _ _ ⟨(blk_cell BK268.out 0).trans rfl, (blk_cell BK268.out 1).trans rfl, (blk_cell BK268.out 2).trans rfl, (blk_cell BK268.out 3).trans rfl, (blk_cell BK268.out 4).trans rfl, (blk_cell BK268.out 5).trans rfl, (blk_cell BK268.out 6).trans rfl, (blk_cell BK268.out 7).trans rfl⟩ (fun hHeld => ?_)
              clear hK K
              refine norm_ (a' := ?_) ?_ ?_
              rotate_left
              · show Act.put _ (some 14) _ = _
                simp only [Act.put, List.setIfInBounds_toArray, List.set_cons_zero, List.set_cons_succ, i64_w, i32_w]
                rfl
              refine one_ (i := 5) (N := some 17) #[true, true, true, true, true, true, false, false] rfl rfl (one_of HT_.out (by kernel_rfl)) (by decide) (fun K hK => ?_)
              refine goes_ Tryd.func28 (by kernel_rfl) rfl #[.int .u64 a0_1, .int .i64 6] (by first | rfl | exact wanted_on rfl rfl rfl (by first | rfl | (simp [*]; done) | (simp [*, IntKind.wrap_u32]; done))) rfl rfl (by (try simp only [List.map_toArray, List.map_cons, List.map_nil]); first | done | rfl | (simp only [List.length_drop, List.length_take]; rfl)) ?_
              with_reducible refine (ether_put.calls k a0_1 6 t271 _ A5.out).mono ?_
              rintro e w69 ⟨rfl, hb⟩
              refine ⟨_, rfl, ?_⟩
              have n0_ := Aside0.mk (blk_below (g := gb268) (o := .cells #[.int .u64 a0_0, .int .u64 a0_1, .bool false, .int .i64 a0_3, .bool a0_4, .int .i64 a0_5, .int .i64 a0_6, .string a0_7] 40 (0, 0)) (by (with_reducible repeat (first | refine blk_drewN ?_ _ | refine blk_drew ?_ | refine blk_alloc ?_ _)); exact BK268.out) hb)
              have n1_ := Aside0.mk (below_step (by repeat (first | (with_reducible first | exact HB.out | apply below_alloc | apply pw_below_drewN | apply below_drew1 | refine below_set ?_ GE268.out) | exact HB.out)) hb)
              clear BK268
              clear HB
              have BK268 := n0_
              have HB := n1_
              clear n0_ n1_
              (try clear hb)
              (try clear hb2)
              (try clear hk)
              (try clear hi)
              refine hK.out _ _ ⟨(blk_cell BK268.out 0).trans rfl, (blk_cell BK268.out 1).trans rfl, (blk_cell BK268.out 2).trans rfl, (blk_cell BK268.out 3).trans rfl, (blk_cell BK268.out 4).trans rfl, (blk_cell BK268.out 5).trans rfl, (blk_cell BK268.out 6).trans rfl, (blk_cell BK268.out 7).trans rfl⟩ (fun hHeld => ?_)
              clear hK K
              refine norm_ (a' := ?_) ?_ ?_
              rotate_left
              · show Act.put _ (some 17) _ = _
                simp only [Act.put, List.setIfInBounds_toArray, List.set_cons_zero, List.set_cons_succ, i64_w, i32_w]
                rfl
              refine pure_ (i := 6) (N := some 18) (v := ?_) (a' := ?_) #[true, true, true, true, true, true, true, false] rfl rfl (any_of HT_.out (by kernel_rfl)) (fun _ _ _ h => h) (Or.inl ⟨by rfl, ?_⟩) ?_ ?_
              rotate_left
              · intro w'
                go_simp
                first | with_reducible rfl | (rw [if_neg (by have hz0_ : (⟨#[]⟩ : ByteArray).size = 0 := rfl; (try simp only [decide_eq_true_eq, ByteArray.size_append, ByteArray.size_extract, eq_iff_iff, iff_true, iff_false, Nat.not_lt] at *); omega)]; try with_reducible rfl)
              rotate_left
              · simp only [Act.put, List.setIfInBounds_toArray, List.set_cons_zero, List.set_cons_succ, i64_w, i32_w]
                rfl
              refine pure_ (i := 7) (N := some 5) (v := ?_) (a' := ?_) #[true, true, true, true, true, true, true, true] rfl rfl (any_of HT_.out (by kernel_rfl)) (fun _ _ _ h => h) (Or.inl ⟨by rfl, ?_⟩) ?_ ?_
              rotate_left
              · intro w'
                go_simp
                first | with_reducible rfl | (rw [if_neg (by have hz0_ : (⟨#[]⟩ : ByteArray).size = 0 := rfl; (try simp only [decide_eq_true_eq, ByteArray.size_append, ByteArray.size_extract, eq_iff_iff, iff_true, iff_false, Nat.not_lt] at *); omega)]; try with_reducible rfl)
              rotate_left
              · simp only [Act.put, List.setIfInBounds_toArray, List.set_cons_zero, List.set_cons_succ, i64_w, i32_w]
                rfl
              refine done_ (done_of HT_.out (by kernel_rfl)) ?_
              have hcz70_0 : w69.cell? ⟨gb268, 0, none⟩ = some (.int .u64 a0_0) := (blk_cell BK268.out 0).trans rfl
              have hcz70_1 : w69.cell? ⟨gb268, 1, none⟩ = some (.int .u64 a0_1) := (blk_cell BK268.out 1).trans rfl
              have hcz70_2 : w69.cell? ⟨gb268, 2, none⟩ = some (.bool false) := (blk_cell BK268.out 2).trans rfl
              have hcz70_3 : w69.cell? ⟨gb268, 3, none⟩ = some (.int .i64 a0_3) := (blk_cell BK268.out 3).trans rfl
              have hcz70_4 : w69.cell? ⟨gb268, 4, none⟩ = some (.bool a0_4) := (blk_cell BK268.out 4).trans rfl
              have hcz70_5 : w69.cell? ⟨gb268, 5, none⟩ = some (.int .i64 a0_5) := (blk_cell BK268.out 5).trans rfl
              have hcz70_6 : w69.cell? ⟨gb268, 6, none⟩ = some (.int .i64 a0_6) := (blk_cell BK268.out 6).trans rfl
              have hcz70_7 : w69.cell? ⟨gb268, 7, none⟩ = some (.string a0_7) := (blk_cell BK268.out 7).trans rfl
              have hfz70_0 := blk_frozen BK268.out 0
              have hfz70_1 := blk_frozen BK268.out 1
              have hfz70_2 := blk_frozen BK268.out 2
              have hfz70_3 := blk_frozen BK268.out 3
              have hfz70_4 := blk_frozen BK268.out 4
              have hfz70_5 := blk_frozen BK268.out 5
              have hfz70_6 := blk_frozen BK268.out 6
              have hfz70_7 := blk_frozen BK268.out 7
              try go_wp2
              have n0_ := Aside0.mk (blk_drew BK268.out)
              have n1_ := Aside0.mk (below_drew1 HB.out)
              clear BK268
              clear HB
              have BK268 := n0_
              have HB := n1_
              clear n0_ n1_
              refine start_ (n := 10) (S := fun w' => w'.cell? ⟨gb268, 0, none⟩ = some (.int .u64 a0_0) ∧ w'.cell? ⟨gb268, 1, none⟩ = some (.int .u64 a0_1) ∧ w'.cell? ⟨gb268, 2, none⟩ = some (.bool false) ∧ w'.cell? ⟨gb268, 3, none⟩ = some (.int .i64 a0_3) ∧ w'.cell? ⟨gb268, 4, none⟩ = some (.bool a0_4) ∧ w'.cell? ⟨gb268, 5, none⟩ = some (.int .i64 a0_5) ∧ w'.cell? ⟨gb268, 6, none⟩ = some (.int .i64 a0_6) ∧ w'.cell? ⟨gb268, 7, none⟩ = some (.string a0_7)) (ds := []) #[false, false, false, false, false, false, false, false, false, false] (by kernel_rfl) rfl rfl ⟨(blk_cell BK268.out 0).trans rfl, (blk_cell BK268.out 1).trans rfl, (blk_cell BK268.out 2).trans rfl, (blk_cell BK268.out 3).trans rfl, (blk_cell BK268.out 4).trans rfl, (blk_cell BK268.out 5).trans rfl, (blk_cell BK268.out 6).trans rfl, (blk_cell BK268.out 7).trans rfl⟩ (fun hHeld => ?_); refine with_tabW ether_Build.tab10 ether_Build.bits10 (fun HT_ HW_ => ?_)
              generalize w69.drew = w71 at BK268 HB hHeld ⊢
              refine pure_ (i := 0) (N := some 37) (v := ?_) (a' := ?_) #[true, false, false, false, false, false, false, false, false, false] rfl rfl (any_of HT_.out (by kernel_rfl)) (fun _ _ _ h => h) (Or.inl ⟨by rfl, ?_⟩) ?_ ?_
              rotate_left
              · intro w'
                go_simp
                first | with_reducible rfl | (rw [if_neg (by have hz0_ : (⟨#[]⟩ : ByteArray).size = 0 := rfl; (try simp only [decide_eq_true_eq, ByteArray.size_append, ByteArray.size_extract, eq_iff_iff, iff_true, iff_false, Nat.not_lt] at *); omega)]; try with_reducible rfl)
              rotate_left
              · simp only [Act.put, List.setIfInBounds_toArray, List.set_cons_zero, List.set_cons_succ, i64_w, i32_w]
                rfl
              refine pure_ (i := 1) (N := some 38) (v := ?_) (a' := ?_) #[true, true, false, false, false, false, false, false, false, false] rfl rfl (any_of HT_.out (by kernel_rfl)) (fun _ _ _ h => h) (Or.inl ⟨by rfl, ?_⟩) ?_ ?_
              rotate_left
              · intro w'
                go_simp
                first | with_reducible rfl | (rw [if_neg (by have hz0_ : (⟨#[]⟩ : ByteArray).size = 0 := rfl; (try simp only [decide_eq_true_eq, ByteArray.size_append, ByteArray.size_extract, eq_iff_iff, iff_true, iff_false, Nat.not_lt] at *); omega)]; try with_reducible rfl)
              rotate_left
              · simp only [Act.put, List.setIfInBounds_toArray, List.set_cons_zero, List.set_cons_succ, i64_w, i32_w]
                rfl
              refine pure_ (i := 2) (N := some 39) (v := ?_) (a' := ?_) #[true, true, true, false, false, false, false, false, false, false] rfl rfl (any_of HT_.out (by kernel_rfl)) (fun _ _ _ h => h) (Or.inl ⟨by rfl, ?_⟩) ?_ ?_
              rotate_left
              · intro w'
                go_simp
                first | with_reducible rfl | (rw [if_neg (by have hz0_ : (⟨#[]⟩ : ByteArray).size = 0 := rfl; (try simp only [decide_eq_true_eq, ByteArray.size_append, ByteArray.size_extract, eq_iff_iff, iff_true, iff_false, Nat.not_lt] at *); omega)]; try with_reducible rfl)
              rotate_left
              · simp only [Act.put, List.setIfInBounds_toArray, List.set_cons_zero, List.set_cons_succ, i64_w, i32_w]
                rfl
              refine pure_ (i := 5) (N := some 42) (v := ?_) (a' := ?_) #[true, true, true, false, false, true, false, false, false, false] rfl rfl (any_of HT_.out (by kernel_rfl)) (fun _ _ _ h => h) (Or.inl ⟨by rfl, ?_⟩) ?_ ?_
              rotate_left
              · intro w'
                go_simp
                first | with_reducible rfl | (rw [if_neg (by have hz0_ : (⟨#[]⟩ : ByteArray).size = 0 := rfl; (try simp only [decide_eq_true_eq, ByteArray.size_append, ByteArray.size_extract, eq_iff_iff, iff_true, iff_false, Nat.not_lt] at *); omega)]; try with_reducible rfl)
              rotate_left
              · simp only [Act.put, List.setIfInBounds_toArray, List.set_cons_zero, List.set_cons_succ, i64_w, i32_w]
                rfl
              refine take_ (i := 6) (N := some 43) (v := ?_) (a' := ?_) #[true, true, true, false, false, true, true, false, false, false] rfl rfl (take_ofW HT_.out HW_.out (by kernel_rfl)) (fun _ _ _ h => h) (Or.inl ⟨by rfl, ?_⟩) hHeld ?_ ?_
              rotate_left
              · rintro w' ⟨s0, s1, s2, s3, s4, s5, s6, s7⟩
                go_simp
                with_reducible rfl
              rotate_left
              · simp only [Act.put, List.setIfInBounds_toArray, List.set_cons_zero, List.set_cons_succ, i64_w, i32_w]
                rfl
              refine one_ (i := 3) (N := some 40) #[true, true, true, true, false, true, true, false, false, false] rfl rfl (one_of HT_.out (by kernel_rfl)) (by decide) (fun K hK => ?_)
              refine goes_ Tryd.func28 (by kernel_rfl) rfl #[.int .u64 (IntKind.u64.wrap (a0_6)), .int .i64 2] (by first | rfl | exact wanted_on rfl rfl rfl (by first | rfl | (simp [*]; done) | (simp [*, IntKind.wrap_u32]; done))) rfl rfl (by (try simp only [List.map_toArray, List.map_cons, List.map_nil]); first | done | rfl | (simp only [List.length_drop, List.length_take]; rfl)) ?_
              with_reducible refine (ether_put.calls k (IntKind.u64.wrap (a0_6)) 2 t278 _ A61.out).mono ?_
              rintro e w72 ⟨rfl, hb⟩
              refine ⟨_, rfl, ?_⟩
              have n0_ := Aside0.mk (blk_below (g := gb268) (o := .cells #[.int .u64 a0_0, .int .u64 a0_1, .bool false, .int .i64 a0_3, .bool a0_4, .int .i64 a0_5, .int .i64 a0_6, .string a0_7] 40 (0, 0)) (by (with_reducible repeat (first | refine blk_drewN ?_ _ | refine blk_drew ?_ | refine blk_alloc ?_ _)); exact BK268.out) hb)
              have n1_ := Aside0.mk (below_step (by repeat (first | (with_reducible first | exact HB.out | apply below_alloc | apply pw_below_drewN | apply below_drew1 | refine below_set ?_ GE268.out) | exact HB.out)) hb)
              clear BK268
              clear HB
              have BK268 := n0_
              have HB := n1_
              clear n0_ n1_
              (try clear hb)
              (try clear hb2)
              (try clear hk)
              (try clear hi)
              refine hK.out _ _ ⟨(blk_cell BK268.out 0).trans rfl, (blk_cell BK268.out 1).trans rfl, (blk_cell BK268.out 2).trans rfl, (blk_cell BK268.out 3).trans rfl, (blk_cell BK268.out 4).trans rfl, (blk_cell BK268.out 5).trans rfl, (blk_cell BK268.out 6).trans rfl, (blk_cell BK268.out 7).trans rfl⟩ (fun hHeld => ?_)
              clear hK K
              refine norm_ (a' := ?_) ?_ ?_
              rotate_left
              · show Act.put _ (some 40) _ = _
                simp only [Act.put, List.setIfInBounds_toArray, List.set_cons_zero, List.set_cons_succ, i64_w, i32_w]
                rfl
              refine pure_ (i := 4) (N := some 41) (v := ?_) (a' := ?_) #[true, true, true, true, true, true, true, false, false, false] rfl rfl (any_of HT_.out (by kernel_rfl)) (fun _ _ _ h => h) (Or.inl ⟨by rfl, ?_⟩) ?_ ?_
              rotate_left
              · intro w'
                go_simp
                first | with_reducible rfl | (rw [if_neg (by have hz0_ : (⟨#[]⟩ : ByteArray).size = 0 := rfl; (try simp only [decide_eq_true_eq, ByteArray.size_append, ByteArray.size_extract, eq_iff_iff, iff_true, iff_false, Nat.not_lt] at *); omega)]; try with_reducible rfl)
              rotate_left
              · simp only [Act.put, List.setIfInBounds_toArray, List.set_cons_zero, List.set_cons_succ, i64_w, i32_w]
                rfl
              refine pure_ (i := 7) (N := some 44) (v := ?_) (a' := ?_) #[true, true, true, true, true, true, true, true, false, false] rfl rfl (any_of HT_.out (by kernel_rfl)) (fun _ _ _ h => h) (Or.inl ⟨by rfl, ?_⟩) ?_ ?_
              rotate_left
              · intro w'
                go_simp
                first | with_reducible rfl | (rw [if_neg (by have hz0_ : (⟨#[]⟩ : ByteArray).size = 0 := rfl; (try simp only [decide_eq_true_eq, ByteArray.size_append, ByteArray.size_extract, eq_iff_iff, iff_true, iff_false, Nat.not_lt] at *); omega)]; try with_reducible rfl)
              rotate_left
              · simp only [Act.put, List.setIfInBounds_toArray, List.set_cons_zero, List.set_cons_succ, i64_w, i32_w]
                rfl
              refine pure_ (i := 8) (N := some 2) (v := ?_) (a' := ?_) #[true, true, true, true, true, true, true, true, true, false] rfl rfl (any_of HT_.out (by kernel_rfl)) (fun _ _ _ h => h) (Or.inl ⟨by rfl, ?_⟩) ?_ ?_
              rotate_left
              · intro w'
                go_simp
                first | with_reducible rfl | (rw [if_neg (by have hz0_ : (⟨#[]⟩ : ByteArray).size = 0 := rfl; (try simp only [decide_eq_true_eq, ByteArray.size_append, ByteArray.size_extract, eq_iff_iff, iff_true, iff_false, Nat.not_lt] at *); omega)]; try with_reducible rfl)
              rotate_left
              · simp only [Act.put, List.setIfInBounds_toArray, List.set_cons_zero, List.set_cons_succ, i64_w, i32_w]
                rfl
              refine pure_ (i := 9) (N := some 3) (v := ?_) (a' := ?_) #[true, true, true, true, true, true, true, true, true, true] rfl rfl (any_of HT_.out (by kernel_rfl)) (fun _ _ _ h => h) (Or.inl ⟨by rfl, ?_⟩) ?_ ?_
              rotate_left
              · intro w'
                go_simp
                first | with_reducible rfl | (rw [if_neg (by have hz0_ : (⟨#[]⟩ : ByteArray).size = 0 := rfl; (try simp only [decide_eq_true_eq, ByteArray.size_append, ByteArray.size_extract, eq_iff_iff, iff_true, iff_false, Nat.not_lt] at *); omega)]; try with_reducible rfl)
              rotate_left
              · simp only [Act.put, List.setIfInBounds_toArray, List.set_cons_zero, List.set_cons_succ, i64_w, i32_w]
                rfl
              refine done_ (done_of HT_.out (by kernel_rfl)) ?_
              try go_wp2
              go_ret2
              exact ⟨by first | rfl | (simp [errW_none, errW_some] <;> rfl) | (simp [*, errW_none, errW_some] <;> rfl) | (simp [*, IntKind.wrap_u32]; done) | (simp_all [IntKind.wrap_u32]; done), by repeat (first | (with_reducible first | exact HB.out | apply below_alloc | apply pw_below_drewN | apply below_drew1 | refine below_set ?_ GE268.out) | exact HB.out)⟩
            · rw [if_neg c63] at H
              exact absurd H (by simp)
          · rw [if_neg c62] at H
            exact absurd H (by simp)
    · rw [if_neg c6] at H
      exact absurd H (by simp)
  · rw [if_neg c3] at H
    have c3b0 : (t269 == 0) = false := beq_eq_false_iff_ne.mpr c3
    have c3b1 : (t269 != 0) = true := bne_iff_ne.mpr c3
    simp only [Option.some.injEq, Prod.mk.injEq] at H
    obtain ⟨rfl, rfl⟩ := H
    go_enter Tryd.func18, Tryd.ntmps18
    go_wp2_with (first | ((with_reducible refine gate_dst (N := 1) rfl ?_); refine box_event ?hg (N := 1) ?hd (cs := #[.int .u64 a0_0, .int .u64 a0_1, .bool a0_2, .int .i64 a0_3, .bool a0_4, .int .i64 a0_5, .int .i64 a0_6, .string a0_7]) (t := 40) ?hr ?_; (case hd => rfl); (case hg => rfl); (case hr => first | (go_simp; done) | (go_simp; rfl)); intro gb268 hg w73 hbox hb; have n0_ := Aside0.mk (below_step (by repeat (first | (with_reducible first | exact HB.out | apply below_alloc | apply pw_below_drewN | apply below_drew1) | exact HB.out)) hb); have n1_ := Aside0.mk (hbox); have n2_ := Aside0.mk ((by rw [hg]; exact (below_size (by repeat (first | (with_reducible first | exact HB.out | apply below_alloc | apply pw_below_drewN | apply below_drew1) | exact HB.out))) : w.heap.size ≤ gb268)); have n3_ := Aside0.mk ((by rw [hg]; exact (below_size (by repeat (first | (with_reducible first | exact HB.out | apply below_alloc | apply pw_below_drewN | apply below_drew1) | exact HB.out))) : w.heap.size ≤ gb268)); clear HB; have HB := n0_; have BK268 := n1_; have GW268 := n2_; have GE268 := n3_; clear n0_ n1_ n2_ n3_; clear hb hbox hg; have hcz74_0 : w73.cell? ⟨gb268, 0, none⟩ = some (.int .u64 a0_0) := (blk_cell BK268.out 0).trans rfl; have hcz74_1 : w73.cell? ⟨gb268, 1, none⟩ = some (.int .u64 a0_1) := (blk_cell BK268.out 1).trans rfl; have hcz74_2 : w73.cell? ⟨gb268, 2, none⟩ = some (.bool a0_2) := (blk_cell BK268.out 2).trans rfl; have hcz74_3 : w73.cell? ⟨gb268, 3, none⟩ = some (.int .i64 a0_3) := (blk_cell BK268.out 3).trans rfl; have hcz74_4 : w73.cell? ⟨gb268, 4, none⟩ = some (.bool a0_4) := (blk_cell BK268.out 4).trans rfl; have hcz74_5 : w73.cell? ⟨gb268, 5, none⟩ = some (.int .i64 a0_5) := (blk_cell BK268.out 5).trans rfl; have hcz74_6 : w73.cell? ⟨gb268, 6, none⟩ = some (.int .i64 a0_6) := (blk_cell BK268.out 6).trans rfl; have hcz74_7 : w73.cell? ⟨gb268, 7, none⟩ = some (.string a0_7) := (blk_cell BK268.out 7).trans rfl; have hfz74_0 := blk_frozen BK268.out 0; have hfz74_1 := blk_frozen BK268.out 1; have hfz74_2 := blk_frozen BK268.out 2; have hfz74_3 := blk_frozen BK268.out 3; have hfz74_4 := blk_frozen BK268.out 4; have hfz74_5 := blk_frozen BK268.out 5; have hfz74_6 := blk_frozen BK268.out 6; have hfz74_7 := blk_frozen BK268.out 7) | ((with_reducible refine gate_callee (f := 27) rfl ?_); refine goesL_ (some 8) rfl rfl Tryd.func27 (by kernel_rfl) rfl #[.agg #[.int .u64 a0_0, .int .u64 a0_1, .bool a0_2, .int .i64 a0_3, .bool a0_4, .int .i64 a0_5, .int .i64 a0_6, .string a0_7]] rfl (by (try simp only [List.map_toArray, List.map_cons, List.map_nil]); first | done | rfl | (simp only [List.length_drop, List.length_take]; rfl)) ?_; (with_reducible refine (ether_Check.calls k a0_0 a0_1 a0_2 a0_3 a0_4 a0_5 a0_6 a0_7 t269 _ A2.out).mono ?_); rintro e w75 ⟨rfl, hb⟩; refine ⟨_, rfl, ?_⟩; have n0_ := Aside0.mk (blk_below (g := gb268) (o := .cells #[.int .u64 a0_0, .int .u64 a0_1, .bool a0_2, .int .i64 a0_3, .bool a0_4, .int .i64 a0_5, .int .i64 a0_6, .string a0_7] 40 (0, 0)) (by (with_reducible repeat (first | refine blk_drewN ?_ _ | refine blk_drew ?_ | refine blk_alloc ?_ _)); exact BK268.out) hb); have n1_ := Aside0.mk (below_step (by repeat (first | (with_reducible first | exact HB.out | apply below_alloc | apply pw_below_drewN | apply below_drew1 | refine below_set ?_ GE268.out) | exact HB.out)) hb); clear BK268; clear HB; have BK268 := n0_; have HB := n1_; clear n0_ n1_; have hcy1_268_0 := (show World.cell? _ ⟨gb268, 0, none⟩ = some (.int .u64 a0_0) from (blk_cell BK268.out 0).trans rfl); have hcy1_268_1 := (show World.cell? _ ⟨gb268, 1, none⟩ = some (.int .u64 a0_1) from (blk_cell BK268.out 1).trans rfl); have hcy1_268_2 := (show World.cell? _ ⟨gb268, 2, none⟩ = some (.bool a0_2) from (blk_cell BK268.out 2).trans rfl); have hcy1_268_3 := (show World.cell? _ ⟨gb268, 3, none⟩ = some (.int .i64 a0_3) from (blk_cell BK268.out 3).trans rfl); have hcy1_268_4 := (show World.cell? _ ⟨gb268, 4, none⟩ = some (.bool a0_4) from (blk_cell BK268.out 4).trans rfl); have hcy1_268_5 := (show World.cell? _ ⟨gb268, 5, none⟩ = some (.int .i64 a0_5) from (blk_cell BK268.out 5).trans rfl); have hcy1_268_6 := (show World.cell? _ ⟨gb268, 6, none⟩ = some (.int .i64 a0_6) from (blk_cell BK268.out 6).trans rfl); have hcy1_268_7 := (show World.cell? _ ⟨gb268, 7, none⟩ = some (.string a0_7) from (blk_cell BK268.out 7).trans rfl); (try clear hb); (try clear hb2); (try clear hk); (try clear hi)))
    go_ret2
    exact ⟨by first | rfl | (simp [errW_none, errW_some] <;> rfl) | (simp [*, errW_none, errW_some] <;> rfl) | (simp [*, IntKind.wrap_u32]; done) | (simp_all [IntKind.wrap_u32]; done), by repeat (first | (with_reducible first | exact HB.out | apply below_alloc | apply pw_below_drewN | apply below_drew1 | refine below_set ?_ GE268.out) | exact HB.out)⟩

end Go.Proofs.YtjlikmonnnbnaaaDoor.P
