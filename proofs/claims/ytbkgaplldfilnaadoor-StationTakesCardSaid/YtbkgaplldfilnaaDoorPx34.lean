-- slim
-- Written by wip/hprint.py (this session's program) through the kit's print program; hand contracts are marked 'by hand'.
import Derived.Test.YtbkgaplldfilnaaDoorAbb
import Derived.Test.YtbkgaplldfilnaaDoorRow
import Derived.Test.YtbkgaplldfilnaaDoorPx0
import Derived.Test.YtbkgaplldfilnaaDoorPx4
import Derived.Test.YtbkgaplldfilnaaDoorPx30
import Derived.Test.YtbkgaplldfilnaaDoorPx32
import Derived.Test.YtbkgaplldfilnaaDoorPx10
namespace Go.Proofs.YtbkgaplldfilnaaDoor.P
open Go.RowKit Go.Proofs.YtbkgaplldfilnaaDoorW.PrintWords Go.Proofs.YtbkgaplldfilnaaDoorW.PrintLast Go.Proofs.YtbkgaplldfilnaaDoorW.PrintMore
attribute [local go_sem] max2_int min2_int max_two min_two max_three min_three max_four min_four   -- for this text's walks alone
set_option linter.unusedVariables false
set_option linter.unusedSimpArgs false

theorem qfam {p : Prop} (h : p := by (with_reducible repeat (first | apply Kd.R_alloc | apply Kd.R_drewN | apply Kd.R_drew)); exact HO460.out) : p := h
theorem qncv {p : Prop} (h : p := by (with_reducible repeat (first | apply Kd.R_alloc | apply Kd.R_drewN | apply Kd.R_drew)); exact HO467.out) : p := h
theorem qlbs {p : Prop} (h : p := by (with_reducible repeat (first | apply Kd.R_alloc | apply Kd.R_drewN | apply Kd.R_drew)); exact (Q_HO460 h0_)) : p := h
theorem q32g {p : Prop} (h : p := by (with_reducible repeat (first | apply Kd.R_alloc | apply Kd.R_drewN | apply Kd.R_drew)); exact (Q_HO467 h0_)) : p := h
theorem qqgy {p : Prop} (h : p := by (with_reducible repeat (first | refine blk_drewN ?_ _ | refine blk_drew ?_ | refine blk_alloc ?_ _)); exact BK452.out) : p := h
theorem q5ec {p : Prop} (h : p := by repeat (first | (with_reducible first | exact HB.out | apply below_alloc | apply pw_below_drewN | apply below_drew1 | refine below_set ?_ GE452.out) | exact HB.out)) : p := h
theorem q9wl {p : Prop} (h : p := by with_reducible repeat (first | (apply blk_far; case hp => assumption) | apply blk_set | refine blk_drewN ?_ _ | refine blk_drew ?_ | refine blk_alloc ?_ _ | exact BK452.out)) : p := h
theorem qq9y {p : Prop} (h : p := by exact ⟨(blk_cell BK452.out 0).trans rfl, (blk_cell BK452.out 1).trans rfl, (blk_cell BK452.out 2).trans rfl, (blk_cell BK452.out 3).trans rfl, (blk_cell BK452.out 4).trans rfl, (blk_cell BK452.out 5).trans rfl, (blk_cell BK452.out 6).trans rfl, (blk_cell BK452.out 7).trans rfl, (blk_cell BK452.out 8).trans rfl, (blk_cell BK452.out 9).trans rfl⟩) : p := h
/-! ### inet_Build: function 24 -/
def inet_Build.f (k : Nat) (a0_0 : Int) (a0_1 : Int) (a0_2 : Bool) (a0_3 : Bool) (a0_4 : Int) (a0_5 : Int) (a0_6 : Int) (a0_7 : Int) (a0_8 : Int) (a0_9 : ByteArray) : Option (ByteArray × Int) := (inet_Check.f a0_0 a0_1 a0_2 a0_3 a0_4 a0_5 a0_6 a0_7 a0_8 a0_9).bind fun t453 => (if t453 = 0 then ((octets_Put.f k (IntKind.u64.wrap (a0_7)) 4).bind fun bt454 => ((octets_Put.f k (IntKind.u64.wrap (a0_8)) 4).bind fun bt456 => ((some (([69, (a0_0) % 256] : List Int) : List Int)).bind fun y458 => ((inet_word.f k (wrap64 (20 + (a0_9.size : Int)))).bind fun t461 => (if (strOfNums y458).size + t461.size ≤ 9223372036854775807 then ((inet_word.f k a0_1).bind fun t462 => (if ((strOfNums y458) ++ t461).size + t462.size ≤ 9223372036854775807 then ((inet_flags.f a0_0 a0_1 a0_2 a0_3 a0_4 a0_5 a0_6 a0_7 a0_8 a0_9).bind fun t463 => ((inet_word.f k t463).bind fun t464 => (if (((strOfNums y458) ++ t461) ++ t462).size + t464.size ≤ 9223372036854775807 then ((some (([(a0_5) % 256, (a0_6) % 256] : List Int) : List Int)).bind fun y465 => (if ((((strOfNums y458) ++ t461) ++ t462) ++ t464).size + (strOfNums y465).size ≤ 9223372036854775807 then (if bt454.1.size + bt456.1.size ≤ 9223372036854775807 then ((inet_word.f k 0).bind fun t468 => ((csum_Of.f k (([((((strOfNums y458) ++ t461) ++ t462) ++ t464) ++ (strOfNums y465), t468, bt454.1 ++ bt456.1] : List ByteArray))).bind fun t472 => ((inet_word.f k t472).bind fun t473 => (if (((((strOfNums y458) ++ t461) ++ t462) ++ t464) ++ (strOfNums y465)).size + t473.size ≤ 9223372036854775807 then (if ((((((strOfNums y458) ++ t461) ++ t462) ++ t464) ++ (strOfNums y465)) ++ t473).size + (bt454.1 ++ bt456.1).size ≤ 9223372036854775807 then (if (((((((strOfNums y458) ++ t461) ++ t462) ++ t464) ++ (strOfNums y465)) ++ t473) ++ (bt454.1 ++ bt456.1)).size + a0_9.size ≤ 9223372036854775807 then (some ((((((((strOfNums y458) ++ t461) ++ t462) ++ t464) ++ (strOfNums y465)) ++ t473) ++ (bt454.1 ++ bt456.1)) ++ a0_9, 0)) else (none)) else (none)) else (none))))) else (none)) else (none))) else (none)))) else (none))) else (none)))))) else (some ((⟨#[]⟩ : ByteArray), t453)))
theorem inet_Build.mono : ∀ a0 a1 a2 a3 a4 a5 a6 a7 a8 a9 k, LeO (inet_Build.f k a0 a1 a2 a3 a4 a5 a6 a7 a8 a9) (inet_Build.f (k + 1) a0 a1 a2 a3 a4 a5 a6 a7 a8 a9) := by
 intro a0 a1 a2 a3 a4 a5 a6 a7 a8 a9 k
 unfold inet_Build.f
 repeat' first
   | (with_reducible exact csum_Of.mono _ _)
   | (with_reducible exact inet_word.mono _ _)
   | (with_reducible exact octets_Put.mono _ _ _)
   | (with_reducible exact LeO.refl _)
   | (with_reducible exact LeO.none _)
   | (with_reducible refine LeO.ite ?_ ?_)
   | (with_reducible refine LeO.bind ?_ (fun _ => ?_))
   | exact csum_Of.mono _ _
   | exact inet_word.mono _ _
   | exact octets_Put.mono _ _ _
   | exact LeO.none _
   | refine LeO.ite ?_ ?_
   | refine LeO.bind ?_ (fun _ => ?_)
def inet_Build.T6 : Bool × List (List Nat × List Nat) := (true, [([], []), ([0], [0]), ([1], [1]), ([2], [2]), ([3], [3]), ([], []), ([5], [5]), ([6], [6]), ([7], [7]), ([8], [8]), ([4, 9], [4, 9]), ([], []), ([11], [11]), ([12, 9], [12]), ([10, 13], [10, 13]), ([], []), ([15, 13], [15]), ([16, 16], [16]), ([14, 17], [14, 17]), ([], []), ([19], [19]), ([20], [20]), ([], []), ([22], [22]), ([23], [23]), ([21, 24], [21, 24]), ([25], [25]), ([18, 26], [18, 26]), ([27, 17, 0, 1, 2, 3, 4, 5, 6, 7, 8, 9, 10, 11, 12, 13, 14, 15, 16, 17, 18, 19, 20, 21, 22, 23, 24, 25, 26, 27], [27])])
def inet_Build.B6 : List Nat := [0, 1, 3, 7, 15, 0, 32, 96, 224, 480, 1023, 0, 2048, 7136, 16383, 0, 48096, 113632, 262143, 0, 524288, 1572864, 0, 4194304, 12582912, 33030144, 66584576, 134217727, 268435455]
theorem inet_Build.tab6 : rtab .any (opsOf Tryd.f24 6) = inet_Build.T6 := by kernel_rfl
theorem inet_Build.bits6 : waitsOk inet_Build.T6.2 inet_Build.B6 = true := by kernel_rfl
def inet_Build.T8 : Bool × List (List Nat × List Nat) := (true, [([], []), ([], []), ([], []), ([], []), ([1, 2, 3], [1, 2, 3]), ([4, 2], [4]), ([5, 5], [5]), ([0, 6], [0, 6]), ([], []), ([7, 8], [7, 8]), ([], []), ([10], [10]), ([9, 11], [9, 11]), ([12, 6, 0, 1, 2, 3, 4, 5, 6, 7, 8, 9, 10, 11, 12], [12]), ([13, 0, 1, 2, 3, 4, 5, 6, 7, 8, 9, 10, 11, 12, 13], [])])
def inet_Build.B8 : List Nat := [0, 0, 0, 0, 14, 30, 62, 127, 0, 511, 0, 1024, 4095, 8191, 16383]
theorem inet_Build.tab8 : rtab .any (opsOf Tryd.f24 8) = inet_Build.T8 := by kernel_rfl
theorem inet_Build.bits8 : waitsOk inet_Build.T8.2 inet_Build.B8 = true := by kernel_rfl
set_option maxHeartbeats 8000000 in
set_option maxRecDepth 100000 in
theorem inet_Build.calls (k : Nat) (a0_0 : Int) (a0_1 : Int) (a0_2 : Bool) (a0_3 : Bool) (a0_4 : Int) (a0_5 : Int) (a0_6 : Int) (a0_7 : Int) (a0_8 : Int) (a0_9 : ByteArray) (r1 : ByteArray) (r2 : Int) (w : World) (h : inet_Build.f k a0_0 a0_1 a0_2 a0_3 a0_4 a0_5 a0_6 a0_7 a0_8 a0_9 = some (r1, r2)) :
  Calls Tryd.prog 24 #[.agg #[.int .i64 a0_0, .int .i64 a0_1, .bool a0_2, .bool a0_3, .int .i64 a0_4, .int .i64 a0_5, .int .i64 a0_6, .int .u32 a0_7, .int .u32 a0_8, .string a0_9]] w fun e w' => e = .returned (.tuple #[.string r1, .int .i64 r2]) ∧ Below w.heap.size w w' := by
 have hu64 := Tryd.underlying64
 have HB := Aside0.mk (Below.refl w.heap.size w)
 have H := h
 unfold inet_Build.f at H
 clear h
 replace H := Option.bind_eq_some_iff.mp H
 obtain ⟨t453, A20, H⟩ := H
 try dsimp only at H
 have A2 := Aside0.mk A20
 clear A20
 by_cases c3 : t453 = 0
 ·rw [if_pos c3] at H
  have c3b0 : (t453 == 0) = true := beq_iff_eq.mpr c3
  have c3b1 : (t453 != 0) = false := bne_eq_false_iff_eq.mpr c3
  clear c3
  replace H := Option.bind_eq_some_iff.mp H
  obtain ⟨⟨t454, t455⟩, A40, H⟩ := H
  try dsimp only at H
  have A4 := Aside0.mk A40
  clear A40
  replace H := Option.bind_eq_some_iff.mp H
  obtain ⟨⟨t456, t457⟩, A50, H⟩ := H
  try dsimp only at H
  have A5 := Aside0.mk A50
  clear A50
  obtain ⟨y458, hy458⟩ : ∃ y_ : List Int, y_ = (([69, (a0_0) % 256] : List Int)) := ⟨_, rfl⟩
  replace H : ((inet_word.f k (wrap64 (20 + (a0_9.size : Int)))).bind fun t461 => (if (strOfNums y458).size + t461.size ≤ 9223372036854775807 then ((inet_word.f k a0_1).bind fun t462 => (if ((strOfNums y458) ++ t461).size + t462.size ≤ 9223372036854775807 then ((inet_flags.f a0_0 a0_1 a0_2 a0_3 a0_4 a0_5 a0_6 a0_7 a0_8 a0_9).bind fun t463 => ((inet_word.f k t463).bind fun t464 => (if (((strOfNums y458) ++ t461) ++ t462).size + t464.size ≤ 9223372036854775807 then ((some (([(a0_5) % 256, (a0_6) % 256] : List Int) : List Int)).bind fun y465 => (if ((((strOfNums y458) ++ t461) ++ t462) ++ t464).size + (strOfNums y465).size ≤ 9223372036854775807 then (if t454.size + t456.size ≤ 9223372036854775807 then ((inet_word.f k 0).bind fun t468 => ((csum_Of.f k (([((((strOfNums y458) ++ t461) ++ t462) ++ t464) ++ (strOfNums y465), t468, t454 ++ t456] : List ByteArray))).bind fun t472 => ((inet_word.f k t472).bind fun t473 => (if (((((strOfNums y458) ++ t461) ++ t462) ++ t464) ++ (strOfNums y465)).size + t473.size ≤ 9223372036854775807 then (if ((((((strOfNums y458) ++ t461) ++ t462) ++ t464) ++ (strOfNums y465)) ++ t473).size + (t454 ++ t456).size ≤ 9223372036854775807 then (if (((((((strOfNums y458) ++ t461) ++ t462) ++ t464) ++ (strOfNums y465)) ++ t473) ++ (t454 ++ t456)).size + a0_9.size ≤ 9223372036854775807 then (some ((((((((strOfNums y458) ++ t461) ++ t462) ++ t464) ++ (strOfNums y465)) ++ t473) ++ (t454 ++ t456)) ++ a0_9, 0)) else (none)) else (none)) else (none))))) else (none)) else (none))) else (none)))) else (none))) else (none))) = some (r1, r2) := by first | (rw [hy458]; with_reducible exact H) | (have H2_ := (Option.bind_some _ _).symm.trans H; rw [hy458]; with_reducible exact H2_) | (have H2_ := (Option.bind_some _ _).symm.trans H; with_reducible exact H2_) | with_reducible exact H | (rw [hy458]; exact H) | exact H
  have Ny458 := Aside0.mk hy458
  clear hy458
  replace H := Option.bind_eq_some_iff.mp H
  obtain ⟨t461, A60, H⟩ := H
  try dsimp only at H
  have A6 := Aside0.mk A60
  clear A60
  by_cases c7 : (strOfNums y458).size + t461.size ≤ 9223372036854775807
  ·rw [if_pos c7] at H
   have c7b0 := eq_true c7
   have c7b1 : decide ((strOfNums y458).size + t461.size ≤ 9223372036854775807) = true := decide_eq_true c7
   try have c7b2 : (9223372036854775807 < (strOfNums y458).size + t461.size) = False := eq_false (Nat.not_lt.2 c7)
   replace H := Option.bind_eq_some_iff.mp H
   obtain ⟨t462, A80, H⟩ := H
   try dsimp only at H
   have A8 := Aside0.mk A80
   clear A80
   by_cases c9 : ((strOfNums y458) ++ t461).size + t462.size ≤ 9223372036854775807
   ·rw [if_pos c9] at H
    have c9b0 := eq_true c9
    have c9b1 : decide (((strOfNums y458) ++ t461).size + t462.size ≤ 9223372036854775807) = true := decide_eq_true c9
    have c9z := c9
    simp only [ByteArray.size_append] at c9z
    have c9z1 := eq_true c9z
    have c9z2 := eq_false (Nat.not_lt.2 c9z)
    try have c9b2 : (9223372036854775807 < ((strOfNums y458) ++ t461).size + t462.size) = False := eq_false (Nat.not_lt.2 c9)
    replace H := Option.bind_eq_some_iff.mp H
    obtain ⟨t463, A100, H⟩ := H
    try dsimp only at H
    have A10 := Aside0.mk A100
    clear A100
    replace H := Option.bind_eq_some_iff.mp H
    obtain ⟨t464, A110, H⟩ := H
    try dsimp only at H
    have A11 := Aside0.mk A110
    clear A110
    by_cases c12 : (((strOfNums y458) ++ t461) ++ t462).size + t464.size ≤ 9223372036854775807
    ·rw [if_pos c12] at H
     have c12b0 := eq_true c12
     have c12b1 : decide ((((strOfNums y458) ++ t461) ++ t462).size + t464.size ≤ 9223372036854775807) = true := decide_eq_true c12
     have c12z := c12
     simp only [ByteArray.size_append] at c12z
     have c12z1 := eq_true c12z
     have c12z2 := eq_false (Nat.not_lt.2 c12z)
     try have c12b2 : (9223372036854775807 < (((strOfNums y458) ++ t461) ++ t462).size + t464.size) = False := eq_false (Nat.not_lt.2 c12)
     obtain ⟨y465, hy465⟩ : ∃ y_ : List Int, y_ = (([(a0_5) % 256, (a0_6) % 256] : List Int)) := ⟨_, rfl⟩
     replace H : (if ((((strOfNums y458) ++ t461) ++ t462) ++ t464).size + (strOfNums y465).size ≤ 9223372036854775807 then (if t454.size + t456.size ≤ 9223372036854775807 then ((inet_word.f k 0).bind fun t468 => ((csum_Of.f k (([((((strOfNums y458) ++ t461) ++ t462) ++ t464) ++ (strOfNums y465), t468, t454 ++ t456] : List ByteArray))).bind fun t472 => ((inet_word.f k t472).bind fun t473 => (if (((((strOfNums y458) ++ t461) ++ t462) ++ t464) ++ (strOfNums y465)).size + t473.size ≤ 9223372036854775807 then (if ((((((strOfNums y458) ++ t461) ++ t462) ++ t464) ++ (strOfNums y465)) ++ t473).size + (t454 ++ t456).size ≤ 9223372036854775807 then (if (((((((strOfNums y458) ++ t461) ++ t462) ++ t464) ++ (strOfNums y465)) ++ t473) ++ (t454 ++ t456)).size + a0_9.size ≤ 9223372036854775807 then (some ((((((((strOfNums y458) ++ t461) ++ t462) ++ t464) ++ (strOfNums y465)) ++ t473) ++ (t454 ++ t456)) ++ a0_9, 0)) else (none)) else (none)) else (none))))) else (none)) else (none)) = some (r1, r2) := by first | (rw [hy465]; with_reducible exact H) | (have H2_ := (Option.bind_some _ _).symm.trans H; rw [hy465]; with_reducible exact H2_) | (have H2_ := (Option.bind_some _ _).symm.trans H; with_reducible exact H2_) | with_reducible exact H | (rw [hy465]; exact H) | exact H
     have Ny465 := Aside0.mk hy465
     clear hy465
     by_cases c13 : ((((strOfNums y458) ++ t461) ++ t462) ++ t464).size + (strOfNums y465).size ≤ 9223372036854775807
     ·rw [if_pos c13] at H
      have c13b0 := eq_true c13
      have c13b1 : decide (((((strOfNums y458) ++ t461) ++ t462) ++ t464).size + (strOfNums y465).size ≤ 9223372036854775807) = true := decide_eq_true c13
      have c13z := c13
      simp only [ByteArray.size_append] at c13z
      have c13z1 := eq_true c13z
      have c13z2 := eq_false (Nat.not_lt.2 c13z)
      try have c13b2 : (9223372036854775807 < ((((strOfNums y458) ++ t461) ++ t462) ++ t464).size + (strOfNums y465).size) = False := eq_false (Nat.not_lt.2 c13)
      by_cases c14 : t454.size + t456.size ≤ 9223372036854775807
      ·rw [if_pos c14] at H
       have c14b0 := eq_true c14
       have c14b1 : decide (t454.size + t456.size ≤ 9223372036854775807) = true := decide_eq_true c14
       try have c14b2 : (9223372036854775807 < t454.size + t456.size) = False := eq_false (Nat.not_lt.2 c14)
       replace H := Option.bind_eq_some_iff.mp H
       obtain ⟨t468, A150, H⟩ := H
       try dsimp only at H
       have A15 := Aside0.mk A150
       clear A150
       obtain ⟨y469, hy469⟩ : ∃ y_ : List ByteArray, y_ = (([((((strOfNums y458) ++ t461) ++ t462) ++ t464) ++ (strOfNums y465), t468, t454 ++ t456] : List ByteArray)) := ⟨_, rfl⟩
       replace H : ((csum_Of.f k y469).bind fun t472 => ((inet_word.f k t472).bind fun t473 => (if (((((strOfNums y458) ++ t461) ++ t462) ++ t464) ++ (strOfNums y465)).size + t473.size ≤ 9223372036854775807 then (if ((((((strOfNums y458) ++ t461) ++ t462) ++ t464) ++ (strOfNums y465)) ++ t473).size + (t454 ++ t456).size ≤ 9223372036854775807 then (if (((((((strOfNums y458) ++ t461) ++ t462) ++ t464) ++ (strOfNums y465)) ++ t473) ++ (t454 ++ t456)).size + a0_9.size ≤ 9223372036854775807 then (some ((((((((strOfNums y458) ++ t461) ++ t462) ++ t464) ++ (strOfNums y465)) ++ t473) ++ (t454 ++ t456)) ++ a0_9, 0)) else (none)) else (none)) else (none)))) = some (r1, r2) := by first | (rw [hy469]; with_reducible exact H) | (have H2_ := (Option.bind_some _ _).symm.trans H; rw [hy469]; with_reducible exact H2_) | (have H2_ := (Option.bind_some _ _).symm.trans H; with_reducible exact H2_) | with_reducible exact H | (rw [hy469]; exact H) | exact H
       have Ny469 := Aside0.mk hy469
       clear hy469
       replace H := Option.bind_eq_some_iff.mp H
       obtain ⟨t472, A160, H⟩ := H
       try dsimp only at H
       have A16 := Aside0.mk A160
       clear A160
       replace H := Option.bind_eq_some_iff.mp H
       obtain ⟨t473, A170, H⟩ := H
       try dsimp only at H
       have A17 := Aside0.mk A170
       clear A170
       by_cases c18 : (((((strOfNums y458) ++ t461) ++ t462) ++ t464) ++ (strOfNums y465)).size + t473.size ≤ 9223372036854775807
       ·rw [if_pos c18] at H
        have c18b0 := eq_true c18
        have c18b1 : decide ((((((strOfNums y458) ++ t461) ++ t462) ++ t464) ++ (strOfNums y465)).size + t473.size ≤ 9223372036854775807) = true := decide_eq_true c18
        have c18z := c18
        simp only [ByteArray.size_append] at c18z
        have c18z1 := eq_true c18z
        have c18z2 := eq_false (Nat.not_lt.2 c18z)
        try have c18b2 : (9223372036854775807 < (((((strOfNums y458) ++ t461) ++ t462) ++ t464) ++ (strOfNums y465)).size + t473.size) = False := eq_false (Nat.not_lt.2 c18)
        by_cases c19 : ((((((strOfNums y458) ++ t461) ++ t462) ++ t464) ++ (strOfNums y465)) ++ t473).size + (t454 ++ t456).size ≤ 9223372036854775807
        ·rw [if_pos c19] at H
         have c19b0 := eq_true c19
         have c19b1 : decide (((((((strOfNums y458) ++ t461) ++ t462) ++ t464) ++ (strOfNums y465)) ++ t473).size + (t454 ++ t456).size ≤ 9223372036854775807) = true := decide_eq_true c19
         have c19z := c19
         simp only [ByteArray.size_append] at c19z
         have c19z1 := eq_true c19z
         have c19z2 := eq_false (Nat.not_lt.2 c19z)
         try have c19b2 : (9223372036854775807 < ((((((strOfNums y458) ++ t461) ++ t462) ++ t464) ++ (strOfNums y465)) ++ t473).size + (t454 ++ t456).size) = False := eq_false (Nat.not_lt.2 c19)
         by_cases c20 : (((((((strOfNums y458) ++ t461) ++ t462) ++ t464) ++ (strOfNums y465)) ++ t473) ++ (t454 ++ t456)).size + a0_9.size ≤ 9223372036854775807
         ·rw [if_pos c20] at H
          have c20b0 := eq_true c20
          have c20b1 : decide ((((((((strOfNums y458) ++ t461) ++ t462) ++ t464) ++ (strOfNums y465)) ++ t473) ++ (t454 ++ t456)).size + a0_9.size ≤ 9223372036854775807) = true := decide_eq_true c20
          have c20z := c20
          simp only [ByteArray.size_append] at c20z
          have c20z1 := eq_true c20z
          have c20z2 := eq_false (Nat.not_lt.2 c20z)
          try have c20b2 : (9223372036854775807 < (((((((strOfNums y458) ++ t461) ++ t462) ++ t464) ++ (strOfNums y465)) ++ t473) ++ (t454 ++ t456)).size + a0_9.size) = False := eq_false (Nat.not_lt.2 c20)
          simp only [Option.some.injEq, Prod.mk.injEq] at H
          obtain ⟨rfl, rfl⟩ := H
          go_enter Tryd.func24, Tryd.ntmps24
          try go_wp2_with (first | ((with_reducible refine gate_st (ty := 64) rfl ?_); refine storeC10 rfl rfl rfl rfl rfl q9wl qr2c qg3m rfl ?_) | ((with_reducible refine gate_ld (ty := 64) rfl ?_); (try (with_reducible refine gate_gd rfl ?_; refine gate_guard q8ju ?_; dsimp only)); refine load_st rfl rfl rfl q9wl qr2c Tryd.underlying64 rfl qg3m ?_; (try simp only [Act.put, List.setIfInBounds_toArray, List.set_cons_zero, List.set_cons_succ])) | ((with_reducible refine gate_dst (N := 1) rfl ?_); refine box_event qgcr (N := 1) qgcr (cs := #[.int .i64 a0_0, .int .i64 a0_1, .bool a0_2, .bool a0_3, .int .i64 a0_4, .int .i64 a0_5, .int .i64 a0_6, .int .u32 a0_7, .int .u32 a0_8, .string a0_9]) (t := 64) qlto ?_; intro gb452 hg w21 hbox hb; have BK452 := Aside0.mk (hbox); have GE452 := Aside0.mk ((qisx : w.heap.size ≤ gb452)); replace HB := Aside0.mk (below_step qpag hb); clear hb hbox hg; obtain ⟨hcz22_0, hcz22_1, hcz22_2, hcz22_3, hcz22_4, hcz22_5, hcz22_6, hcz22_7, hcz22_8, hcz22_9⟩ := cells10 BK452.out; obtain ⟨hfz22_0, hfz22_1, hfz22_2, hfz22_3, hfz22_4, hfz22_5, hfz22_6, hfz22_7, hfz22_8, hfz22_9⟩ := frozen10 BK452.out) | ((with_reducible refine gate_callee (f := 46) rfl ?_); refine goesL_ (some 12) rfl rfl Tryd.func46 qg3m rfl #[.agg #[.int .i64 a0_0, .int .i64 a0_1, .bool a0_2, .bool a0_3, .int .i64 a0_4, .int .i64 a0_5, .int .i64 a0_6, .int .u32 a0_7, .int .u32 a0_8, .string a0_9]] rfl qraq ?_; (with_reducible refine (inet_Check.calls a0_0 a0_1 a0_2 a0_3 a0_4 a0_5 a0_6 a0_7 a0_8 a0_9 t453 _ A2.out).mono ?_); rintro e w23 ⟨rfl, hb⟩; refine ⟨_, rfl, ?_⟩; replace BK452 := Aside0.mk (blk_below (g := gb452) qqgy hb); replace HB := Aside0.mk (below_step q5ec hb); (try clear hb); (try clear hb2); (try clear hk); (try clear hi); obtain ⟨hcz24_0, hcz24_1, hcz24_2, hcz24_3, hcz24_4, hcz24_5, hcz24_6, hcz24_7, hcz24_8, hcz24_9⟩ := cells10 BK452.out; obtain ⟨hfz24_0, hfz24_1, hfz24_2, hfz24_3, hfz24_4, hfz24_5, hfz24_6, hfz24_7, hfz24_8, hfz24_9⟩ := frozen10 BK452.out) | ((with_reducible refine gate_callee (f := 47) rfl ?_); refine goesL_ (some 20) rfl rfl Tryd.func47 qg3m rfl #[.int .u64 (IntKind.u64.wrap (a0_7)), .int .i64 4] rfl qraq ?_; (with_reducible refine (octets_Put.calls k (IntKind.u64.wrap (a0_7)) 4 t454 t455 _ A4.out).mono ?_); rintro e w25 ⟨rfl, hb⟩; refine ⟨_, rfl, ?_⟩; replace BK452 := Aside0.mk (blk_below (g := gb452) qqgy hb); replace HB := Aside0.mk (below_step q5ec hb); (try clear hb); (try clear hb2); (try clear hk); (try clear hi); obtain ⟨hcz26_0, hcz26_1, hcz26_2, hcz26_3, hcz26_4, hcz26_5, hcz26_6, hcz26_7, hcz26_8, hcz26_9⟩ := cells10 BK452.out; obtain ⟨hfz26_0, hfz26_1, hfz26_2, hfz26_3, hfz26_4, hfz26_5, hfz26_6, hfz26_7, hfz26_8, hfz26_9⟩ := frozen10 BK452.out) | ((with_reducible refine gate_callee (f := 47) rfl ?_); refine goesL_ (some 27) rfl rfl Tryd.func47 qg3m rfl #[.int .u64 (IntKind.u64.wrap (a0_8)), .int .i64 4] rfl qraq ?_; (with_reducible refine (octets_Put.calls k (IntKind.u64.wrap (a0_8)) 4 t456 t457 _ A5.out).mono ?_); rintro e w27 ⟨rfl, hb⟩; refine ⟨_, rfl, ?_⟩; replace BK452 := Aside0.mk (blk_below (g := gb452) qqgy hb); replace HB := Aside0.mk (below_step q5ec hb); obtain ⟨hcy3_452_0, hcy3_452_1, hcy3_452_2, hcy3_452_3, hcy3_452_4, hcy3_452_5, hcy3_452_6, hcy3_452_7, hcy3_452_8, hcy3_452_9⟩ := cells10 BK452.out; (try clear hb); (try clear hb2); (try clear hk); (try clear hi)))
          replace BK452 := Aside0.mk (blk_drew BK452.out)
          replace HB := Aside0.mk (below_drew1 HB.out)
          refine start_ (n := 29) (S := fun w' => True) (ds := []) (ba 29 0) qg3m rfl rfl trivial (fun hHeld => ?_); refine with_tabW inet_Build.tab6 inet_Build.bits6 (fun HT_ HW_ => ?_)
          generalize w27.drew = w28 at BK452 HB hHeld ⊢
          refine pu_c3d (i := 0) (N := some 30) (ba 29 1) ?_
          refine pu_c3d (i := 5) (N := some 35) (ba 29 33) ?_
          refine pu_c3d (i := 11) (N := some 41) (ba 29 2081) ?_
          refine pu_c3d (i := 19) (N := some 49) (ba 29 526369) ?_
          refine pu_c3d (i := 22) (N := some 52) (ba 29 4720673) ?_
          refine inv_at [1, 2, 3, 4, 6, 7, 8, 9, 10, 12, 13, 14, 15, 16, 17, 18, 20, 21, 23, 24, 25, 26, 27, 28] (fun a0_ b a w' => ∃ (v459 : Value) (v466 : Value), a = putSel a0_ b [(1, 31, .int .i64 a0_0), (2, 32, .int .u8 ((a0_0) % 256)), (3, 33, v459), (4, 34, .string (strOfNums y458)), (6, 36, .string a0_9), (7, 37, .int .i64 (a0_9.size : Int)), (8, 38, .int .i64 (wrap64 (20 + (a0_9.size : Int)))), (9, 39, .string t461), (10, 40, .string ((strOfNums y458) ++ t461)), (12, 42, .int .i64 a0_1), (13, 43, .string t462), (14, 44, .string (((strOfNums y458) ++ t461) ++ t462)), (15, 45, .agg #[.int .i64 a0_0, .int .i64 a0_1, .bool a0_2, .bool a0_3, .int .i64 a0_4, .int .i64 a0_5, .int .i64 a0_6, .int .u32 a0_7, .int .u32 a0_8, .string a0_9]), (16, 46, .int .i64 t463), (17, 47, .string t464), (18, 48, .string ((((strOfNums y458) ++ t461) ++ t462) ++ t464)), (20, 50, .int .i64 a0_5), (21, 51, .int .u8 ((a0_5) % 256)), (23, 53, .int .i64 a0_6), (24, 54, .int .u8 ((a0_6) % 256)), (25, 55, v466), (26, 56, .string (strOfNums y465)), (27, 57, .string (((((strOfNums y458) ++ t461) ++ t462) ++ t464) ++ (strOfNums y465))), (28, 9, .string (((((strOfNums y458) ++ t461) ++ t462) ++ t464) ++ (strOfNums y465)))] ∧ (w'.heap[gb452]? = some (.cells #[.int .i64 a0_0, .int .i64 a0_1, .bool a0_2, .bool a0_3, .int .i64 a0_4, .int .i64 a0_5, .int .i64 a0_6, .int .u32 a0_7, .int .u32 a0_8, .string a0_9] 64 (0, 0))) ∧ (Below w.heap.size w w') ∧ (b 3 = true → Kd.R (Kd.int .u8) 5 w' w.heap.size (fun _ => True) v459 y458) ∧ (b 25 = true → Kd.R (Kd.int .u8) 5 w' w.heap.size (fun _ => True) v466 y465)) HT_.out HW_.out qg3m qg3m ?_ ?_ ?_
          ·exact ⟨.bool false, .bool false, (by simp only [putSel, Bool.false_eq_true, if_false]), BK452.out, HB.out, fun h_ => absurd h_ qomw, fun h_ => absurd h_ qomw⟩
          ·skip
           clear BK452 HB
           refine steps_cons ?_ ?_
           ·rintro b a w' ⟨v459, v466, ha, Q_BK452, Q_HB, Q_HO460, Q_HO467⟩ hb_ hon hoff
            refine ⟨_, rfl, fun K hK => ?_⟩
            have e30 : a.tmps[30]? = some (.pointer (some ⟨gb452, 0, none⟩)) := by rw [ha]; exact (putSel_off rfl).trans rfl
            replace ha := Aside0.mk ha
            have BK452 := Aside0.mk Q_BK452
            have HB := Aside0.mk Q_HB
            have hc0_ : w'.cell? ⟨gb452, 0, none⟩ = some (.int .i64 a0_0) := (blk_cell BK452.out 0).trans rfl
            have hc1_ : w'.cell? ⟨gb452, 1, none⟩ = some (.int .i64 a0_1) := (blk_cell BK452.out 1).trans rfl
            have hc2_ : w'.cell? ⟨gb452, 2, none⟩ = some (.bool a0_2) := (blk_cell BK452.out 2).trans rfl
            have hc3_ : w'.cell? ⟨gb452, 3, none⟩ = some (.bool a0_3) := (blk_cell BK452.out 3).trans rfl
            have hc4_ : w'.cell? ⟨gb452, 4, none⟩ = some (.int .i64 a0_4) := (blk_cell BK452.out 4).trans rfl
            have hc5_ : w'.cell? ⟨gb452, 5, none⟩ = some (.int .i64 a0_5) := (blk_cell BK452.out 5).trans rfl
            have hc6_ : w'.cell? ⟨gb452, 6, none⟩ = some (.int .i64 a0_6) := (blk_cell BK452.out 6).trans rfl
            have hc7_ : w'.cell? ⟨gb452, 7, none⟩ = some (.int .u32 a0_7) := (blk_cell BK452.out 7).trans rfl
            have hc8_ : w'.cell? ⟨gb452, 8, none⟩ = some (.int .u32 a0_8) := (blk_cell BK452.out 8).trans rfl
            have hc9_ : w'.cell? ⟨gb452, 9, none⟩ = some (.string a0_9) := (blk_cell BK452.out 9).trans rfl
            refine value_ (w1 := w') (v := .int .i64 a0_0) qgcr rfl ?_ ?_
            ·go_simp
             (try simp only [i64_w])
             try rfl
            refine hK.out _ _ (by exact ⟨v459, v466, (by rw [ha.out]; exact putSel_upk 0 hb_ rfl rfl rfl), Q_BK452, Q_HB, fun h0_ => absurd ((hoff 3 qg3m).symm.trans h0_) qomw, Q_HO467⟩)
           refine steps_cons ?_ ?_
           ·rintro b a w' ⟨v459, v466, ha, Q_BK452, Q_HB, Q_HO460, Q_HO467⟩ hb_ hon hoff
            refine ⟨_, rfl, fun K hK => ?_⟩
            have e31 : a.tmps[31]? = some (.int .i64 a0_0) := by rw [ha]; exact putSel_on (e := (1, 31, .int .i64 a0_0)) 0 rfl rfl (hon 1 qg3m) rfl
            replace ha := Aside0.mk ha
            have BK452 := Aside0.mk Q_BK452
            have HB := Aside0.mk Q_HB
            refine value_ (w1 := w') (v := .int .u8 ((a0_0) % 256)) qgcr rfl ?_ ?_
            ·go_simp
             (try simp only [i64_w])
             try rfl
            refine hK.out _ _ (by exact ⟨v459, v466, (by rw [ha.out]; exact putSel_upk 1 hb_ rfl rfl rfl), Q_BK452, Q_HB, fun h0_ => absurd ((hoff 3 qg3m).symm.trans h0_) qomw, Q_HO467⟩)
           refine steps_cons ?_ ?_
           ·rintro b a w' ⟨v459, v466, ha, Q_BK452, Q_HB, Q_HO460, Q_HO467⟩ hb_ hon hoff
            refine ⟨_, rfl, fun K hK => ?_⟩
            have e32 : a.tmps[32]? = some (.int .u8 ((a0_0) % 256)) := by rw [ha]; exact putSel_on (e := (2, 32, .int .u8 ((a0_0) % 256))) 1 rfl rfl (hon 2 qg3m) rfl
            replace ha := Aside0.mk ha
            have BK452 := Aside0.mk Q_BK452
            have HB := Aside0.mk Q_HB
            refine Kd.R_lit_step (Kd.int .u8) _ 5 ?hg (N := 33) ?hd (xs := ([69, (a0_0) % 256] : List Int)) (inner := [.int .u8 69, .int .u8 ((a0_0) % 256)]) (ok := fun _ => True) (okp := fun _ => True) ?hr ?hp (fun _ hk => hk) trivial (Below.refl _ _) (Nat.le_refl _) q6hr ?_; (case hd => rfl); (case hg => rfl); (case hr => first | (go_simp; done) | (go_simp; rfl)); (case hp => exact (Reps.one (show Kd.M (Kd.int .u8) _ _ _ 69 [.int .u8 69] from rfl) (Reps.one (show Kd.M (Kd.int .u8) _ _ _ ((a0_0) % 256) [.int .u8 ((a0_0) % 256)] from rfl) (Reps.none _ _))))
            intro v459 w29 ho30 hb hg_ hnew_
            clear hg_ hnew_
            (first | rw [← Ny458.out] at ho30 | (simp only [Int.reduceToNat] at ho30; rw [← Ny458.out] at ho30))
            have n0_ := Aside0.mk (Kd.R_lower ho30 (below_size q5ec))
            have n1_ := Aside0.mk (blk_below (g := gb452) (o := .cells #[.int .i64 a0_0, .int .i64 a0_1, .bool a0_2, .bool a0_3, .int .i64 a0_4, .int .i64 a0_5, .int .i64 a0_6, .int .u32 a0_7, .int .u32 a0_8, .string a0_9] 64 (0, 0)) qqgy hb)
            have n2_ := Aside0.mk (below_step q5ec hb)
            have z_HO467 := fun (h0_ : b 25 = true) => (show Kd.R (Kd.int .u8) 5 w29 w.heap.size (fun _ => True) v466 y465 from by first | exact (Kd.R_elder' q32g (Kd.R_base ho30) hb) | exact Kd.R_mono (Kd.R_elder' q32g (Kd.R_base ho30) hb) (fun _ h_ => by first | trivial | exact h_ | exact h_.1))
            clear BK452
            clear HB
            have HO460 := n0_
            have BK452 := n1_
            have HB := n2_
            clear n0_ n1_ n2_
            clear hb ho30
            refine hK.out _ _ (by exact ⟨v459, v466, (by rw [ha.out]; exact putSel_upk 2 hb_ rfl rfl rfl), qqgy, q5ec, fun _ => qfam, z_HO467⟩)
           refine steps_cons ?_ ?_
           ·rintro b a w' ⟨v459, v466, ha, Q_BK452, Q_HB, Q_HO460, Q_HO467⟩ hb_ hon hoff
            refine ⟨_, rfl, fun K hK => ?_⟩
            have e33 : a.tmps[33]? = some (v459) := by rw [ha]; exact putSel_on (e := (3, 33, v459)) 2 rfl rfl (hon 3 qg3m) rfl
            replace ha := Aside0.mk ha
            have BK452 := Aside0.mk Q_BK452
            have HB := Aside0.mk Q_HB
            have HO460 := Aside0.mk (Q_HO460 (hon 3 qg3m))
            obtain ⟨Ao4_0, co4_0, eo_⟩ := Kd.R_slice HO460.out
            subst eo_
            have hcv4_ := own_string (P := Tryd.prog) Tryd.underlying48 Tryd.underlying5 Tryd.underlying9 (Kd.own_of_R HO460.out)
            refine value_ (w1 := w') (v := .string (strOfNums y458)) qgcr rfl ?_ ?_
            ·go_simp
             (try simp only [i64_w])
             try rfl
            refine hK.out _ _ (by exact ⟨.slice Ao4_0 y458.length co4_0, v466, (by rw [ha.out]; exact putSel_upk 3 hb_ rfl rfl rfl), Q_BK452, Q_HB, Q_HO460, Q_HO467⟩)
           refine steps_cons ?_ ?_
           ·rintro b a w' ⟨v459, v466, ha, Q_BK452, Q_HB, Q_HO460, Q_HO467⟩ hb_ hon hoff
            refine ⟨_, rfl, fun K hK => ?_⟩
            have e35 : a.tmps[35]? = some (.pointer (some ⟨gb452, 9, none⟩)) := by rw [ha]; exact (putSel_off rfl).trans rfl
            replace ha := Aside0.mk ha
            have BK452 := Aside0.mk Q_BK452
            have HB := Aside0.mk Q_HB
            have hc0_ : w'.cell? ⟨gb452, 0, none⟩ = some (.int .i64 a0_0) := (blk_cell BK452.out 0).trans rfl
            have hc1_ : w'.cell? ⟨gb452, 1, none⟩ = some (.int .i64 a0_1) := (blk_cell BK452.out 1).trans rfl
            have hc2_ : w'.cell? ⟨gb452, 2, none⟩ = some (.bool a0_2) := (blk_cell BK452.out 2).trans rfl
            have hc3_ : w'.cell? ⟨gb452, 3, none⟩ = some (.bool a0_3) := (blk_cell BK452.out 3).trans rfl
            have hc4_ : w'.cell? ⟨gb452, 4, none⟩ = some (.int .i64 a0_4) := (blk_cell BK452.out 4).trans rfl
            have hc5_ : w'.cell? ⟨gb452, 5, none⟩ = some (.int .i64 a0_5) := (blk_cell BK452.out 5).trans rfl
            have hc6_ : w'.cell? ⟨gb452, 6, none⟩ = some (.int .i64 a0_6) := (blk_cell BK452.out 6).trans rfl
            have hc7_ : w'.cell? ⟨gb452, 7, none⟩ = some (.int .u32 a0_7) := (blk_cell BK452.out 7).trans rfl
            have hc8_ : w'.cell? ⟨gb452, 8, none⟩ = some (.int .u32 a0_8) := (blk_cell BK452.out 8).trans rfl
            have hc9_ : w'.cell? ⟨gb452, 9, none⟩ = some (.string a0_9) := (blk_cell BK452.out 9).trans rfl
            refine value_ (w1 := w') (v := .string a0_9) qgcr rfl ?_ ?_
            ·go_simp
             (try simp only [i64_w])
             try rfl
            refine hK.out _ _ (by exact ⟨v459, v466, (by rw [ha.out]; exact putSel_upk 4 hb_ rfl rfl rfl), Q_BK452, Q_HB, Q_HO460, Q_HO467⟩)
           refine steps_cons ?_ ?_
           ·rintro b a w' ⟨v459, v466, ha, Q_BK452, Q_HB, Q_HO460, Q_HO467⟩ hb_ hon hoff
            refine ⟨_, rfl, fun K hK => ?_⟩
            have e36 : a.tmps[36]? = some (.string a0_9) := by rw [ha]; exact putSel_on (e := (6, 36, .string a0_9)) 4 rfl rfl (hon 6 qg3m) rfl
            replace ha := Aside0.mk ha
            have BK452 := Aside0.mk Q_BK452
            have HB := Aside0.mk Q_HB
            refine value_ (w1 := w') (v := .int .i64 (a0_9.size : Int)) qgcr rfl ?_ ?_
            ·go_simp
             (try simp only [i64_w])
             try rfl
            refine hK.out _ _ (by exact ⟨v459, v466, (by rw [ha.out]; exact putSel_upk 5 hb_ rfl rfl rfl), Q_BK452, Q_HB, Q_HO460, Q_HO467⟩)
           refine steps_cons ?_ ?_
           ·rintro b a w' ⟨v459, v466, ha, Q_BK452, Q_HB, Q_HO460, Q_HO467⟩ hb_ hon hoff
            refine ⟨_, rfl, fun K hK => ?_⟩
            have e37 : a.tmps[37]? = some (.int .i64 (a0_9.size : Int)) := by rw [ha]; exact putSel_on (e := (7, 37, .int .i64 (a0_9.size : Int))) 5 rfl rfl (hon 7 qg3m) rfl
            replace ha := Aside0.mk ha
            have BK452 := Aside0.mk Q_BK452
            have HB := Aside0.mk Q_HB
            refine value_ (w1 := w') (v := .int .i64 (wrap64 (20 + (a0_9.size : Int)))) qgcr rfl ?_ ?_
            ·go_simp
             (try simp only [i64_w])
             try rfl
            refine hK.out _ _ (by exact ⟨v459, v466, (by rw [ha.out]; exact putSel_upk 6 hb_ rfl rfl rfl), Q_BK452, Q_HB, Q_HO460, Q_HO467⟩)
           refine steps_cons ?_ ?_
           ·rintro b a w' ⟨v459, v466, ha, Q_BK452, Q_HB, Q_HO460, Q_HO467⟩ hb_ hon hoff
            refine ⟨_, rfl, fun K hK => ?_⟩
            have e38 : a.tmps[38]? = some (.int .i64 (wrap64 (20 + (a0_9.size : Int)))) := by rw [ha]; exact putSel_on (e := (8, 38, .int .i64 (wrap64 (20 + (a0_9.size : Int))))) 6 rfl rfl (hon 8 qg3m) rfl
            replace ha := Aside0.mk ha
            have BK452 := Aside0.mk Q_BK452
            have HB := Aside0.mk Q_HB
            refine goes_ Tryd.func48 qg3m rfl #[.int .i64 (wrap64 (20 + (a0_9.size : Int)))] qlo1 rfl rfl (by first | (simp only [List.map_toArray, List.map_cons, List.map_nil, Act.eval, Array.getD_eq_getD_getElem?, Option.getD_some, e38]; done) | (simp only [List.map_toArray, List.map_cons, List.map_nil, Act.eval, Array.getD_eq_getD_getElem?, Option.getD_some, e38]; rfl)) ?_
            with_reducible refine (inet_word.calls k (wrap64 (20 + (a0_9.size : Int))) t461 _ A6.out).mono ?_
            rintro e w29 ⟨rfl, hb⟩
            refine ⟨_, rfl, ?_⟩
            have n0_ := Aside0.mk (blk_below (g := gb452) (o := .cells #[.int .i64 a0_0, .int .i64 a0_1, .bool a0_2, .bool a0_3, .int .i64 a0_4, .int .i64 a0_5, .int .i64 a0_6, .int .u32 a0_7, .int .u32 a0_8, .string a0_9] 64 (0, 0)) qqgy hb)
            have n1_ := Aside0.mk (below_step q5ec hb)
            have z_HO460 := fun (h0_ : b 3 = true) => (show Kd.R (Kd.int .u8) 5 w29 w.heap.size (fun _ => True) v459 y458 from by first | exact (Kd.R_below qlbs hb) | exact Kd.R_mono (Kd.R_below qlbs hb) (fun _ h_ => by first | trivial | exact h_ | exact h_.1))
            have z_HO467 := fun (h0_ : b 25 = true) => (show Kd.R (Kd.int .u8) 5 w29 w.heap.size (fun _ => True) v466 y465 from by first | exact (Kd.R_below q32g hb) | exact Kd.R_mono (Kd.R_below q32g hb) (fun _ h_ => by first | trivial | exact h_ | exact h_.1))
            clear BK452
            clear HB
            have BK452 := n0_
            have HB := n1_
            clear n0_ n1_
            (try clear hb)
            (try clear hb2)
            (try clear hk)
            (try clear hi)
            refine hK.out _ _ (by exact ⟨v459, v466, (by rw [ha.out]; exact putSel_upk 7 hb_ rfl rfl rfl), qqgy, q5ec, z_HO460, z_HO467⟩)
           refine steps_cons ?_ ?_
           ·rintro b a w' ⟨v459, v466, ha, Q_BK452, Q_HB, Q_HO460, Q_HO467⟩ hb_ hon hoff
            refine ⟨_, rfl, fun K hK => ?_⟩
            have e34 : a.tmps[34]? = some (.string (strOfNums y458)) := by rw [ha]; exact putSel_on (e := (4, 34, .string (strOfNums y458))) 3 rfl rfl (hon 4 qg3m) rfl
            have e39 : a.tmps[39]? = some (.string t461) := by rw [ha]; exact putSel_on (e := (9, 39, .string t461)) 7 rfl rfl (hon 9 qg3m) rfl
            replace ha := Aside0.mk ha
            have BK452 := Aside0.mk Q_BK452
            have HB := Aside0.mk Q_HB
            have HO460 := Aside0.mk (Q_HO460 (hon 3 qg3m))
            refine value_ (w1 := w') (v := .string ((strOfNums y458) ++ t461)) qgcr rfl ?_ ?_
            ·go_simp
             (try simp only [i64_w])
             try rfl
            refine hK.out _ _ (by exact ⟨v459, v466, (by rw [ha.out]; exact putSel_upk 8 hb_ rfl rfl rfl), Q_BK452, Q_HB, Q_HO460, Q_HO467⟩)
           refine steps_cons ?_ ?_
           ·rintro b a w' ⟨v459, v466, ha, Q_BK452, Q_HB, Q_HO460, Q_HO467⟩ hb_ hon hoff
            refine ⟨_, rfl, fun K hK => ?_⟩
            have e41 : a.tmps[41]? = some (.pointer (some ⟨gb452, 1, none⟩)) := by rw [ha]; exact (putSel_off rfl).trans rfl
            replace ha := Aside0.mk ha
            have BK452 := Aside0.mk Q_BK452
            have HB := Aside0.mk Q_HB
            have hc0_ : w'.cell? ⟨gb452, 0, none⟩ = some (.int .i64 a0_0) := (blk_cell BK452.out 0).trans rfl
            have hc1_ : w'.cell? ⟨gb452, 1, none⟩ = some (.int .i64 a0_1) := (blk_cell BK452.out 1).trans rfl
            have hc2_ : w'.cell? ⟨gb452, 2, none⟩ = some (.bool a0_2) := (blk_cell BK452.out 2).trans rfl
            have hc3_ : w'.cell? ⟨gb452, 3, none⟩ = some (.bool a0_3) := (blk_cell BK452.out 3).trans rfl
            have hc4_ : w'.cell? ⟨gb452, 4, none⟩ = some (.int .i64 a0_4) := (blk_cell BK452.out 4).trans rfl
            have hc5_ : w'.cell? ⟨gb452, 5, none⟩ = some (.int .i64 a0_5) := (blk_cell BK452.out 5).trans rfl
            have hc6_ : w'.cell? ⟨gb452, 6, none⟩ = some (.int .i64 a0_6) := (blk_cell BK452.out 6).trans rfl
            have hc7_ : w'.cell? ⟨gb452, 7, none⟩ = some (.int .u32 a0_7) := (blk_cell BK452.out 7).trans rfl
            have hc8_ : w'.cell? ⟨gb452, 8, none⟩ = some (.int .u32 a0_8) := (blk_cell BK452.out 8).trans rfl
            have hc9_ : w'.cell? ⟨gb452, 9, none⟩ = some (.string a0_9) := (blk_cell BK452.out 9).trans rfl
            refine value_ (w1 := w') (v := .int .i64 a0_1) qgcr rfl ?_ ?_
            ·go_simp
             (try simp only [i64_w])
             try rfl
            refine hK.out _ _ (by exact ⟨v459, v466, (by rw [ha.out]; exact putSel_upk 9 hb_ rfl rfl rfl), Q_BK452, Q_HB, Q_HO460, Q_HO467⟩)
           refine steps_cons ?_ ?_
           ·rintro b a w' ⟨v459, v466, ha, Q_BK452, Q_HB, Q_HO460, Q_HO467⟩ hb_ hon hoff
            refine ⟨_, rfl, fun K hK => ?_⟩
            have e42 : a.tmps[42]? = some (.int .i64 a0_1) := by rw [ha]; exact putSel_on (e := (12, 42, .int .i64 a0_1)) 9 rfl rfl (hon 12 qg3m) rfl
            replace ha := Aside0.mk ha
            have BK452 := Aside0.mk Q_BK452
            have HB := Aside0.mk Q_HB
            refine goes_ Tryd.func48 qg3m rfl #[.int .i64 a0_1] qlo1 rfl rfl (by first | (simp only [List.map_toArray, List.map_cons, List.map_nil, Act.eval, Array.getD_eq_getD_getElem?, Option.getD_some, e42]; done) | (simp only [List.map_toArray, List.map_cons, List.map_nil, Act.eval, Array.getD_eq_getD_getElem?, Option.getD_some, e42]; rfl)) ?_
            with_reducible refine (inet_word.calls k a0_1 t462 _ A8.out).mono ?_
            rintro e w31 ⟨rfl, hb⟩
            refine ⟨_, rfl, ?_⟩
            have n0_ := Aside0.mk (blk_below (g := gb452) (o := .cells #[.int .i64 a0_0, .int .i64 a0_1, .bool a0_2, .bool a0_3, .int .i64 a0_4, .int .i64 a0_5, .int .i64 a0_6, .int .u32 a0_7, .int .u32 a0_8, .string a0_9] 64 (0, 0)) qqgy hb)
            have n1_ := Aside0.mk (below_step q5ec hb)
            have z_HO460 := fun (h0_ : b 3 = true) => (show Kd.R (Kd.int .u8) 5 w31 w.heap.size (fun _ => True) v459 y458 from by first | exact (Kd.R_below qlbs hb) | exact Kd.R_mono (Kd.R_below qlbs hb) (fun _ h_ => by first | trivial | exact h_ | exact h_.1))
            have z_HO467 := fun (h0_ : b 25 = true) => (show Kd.R (Kd.int .u8) 5 w31 w.heap.size (fun _ => True) v466 y465 from by first | exact (Kd.R_below q32g hb) | exact Kd.R_mono (Kd.R_below q32g hb) (fun _ h_ => by first | trivial | exact h_ | exact h_.1))
            clear BK452
            clear HB
            have BK452 := n0_
            have HB := n1_
            clear n0_ n1_
            (try clear hb)
            (try clear hb2)
            (try clear hk)
            (try clear hi)
            refine hK.out _ _ (by exact ⟨v459, v466, (by rw [ha.out]; exact putSel_upk 10 hb_ rfl rfl rfl), qqgy, q5ec, z_HO460, z_HO467⟩)
           refine steps_cons ?_ ?_
           ·rintro b a w' ⟨v459, v466, ha, Q_BK452, Q_HB, Q_HO460, Q_HO467⟩ hb_ hon hoff
            refine ⟨_, rfl, fun K hK => ?_⟩
            have e40 : a.tmps[40]? = some (.string ((strOfNums y458) ++ t461)) := by rw [ha]; exact putSel_on (e := (10, 40, .string ((strOfNums y458) ++ t461))) 8 rfl rfl (hon 10 qg3m) rfl
            have e43 : a.tmps[43]? = some (.string t462) := by rw [ha]; exact putSel_on (e := (13, 43, .string t462)) 10 rfl rfl (hon 13 qg3m) rfl
            replace ha := Aside0.mk ha
            have BK452 := Aside0.mk Q_BK452
            have HB := Aside0.mk Q_HB
            have HO460 := Aside0.mk (Q_HO460 (hon 3 qg3m))
            refine value_ (w1 := w') (v := .string (((strOfNums y458) ++ t461) ++ t462)) qgcr rfl ?_ ?_
            ·go_simp
             (try simp only [i64_w])
             try rfl
            refine hK.out _ _ (by exact ⟨v459, v466, (by rw [ha.out]; exact putSel_upk 11 hb_ rfl rfl rfl), Q_BK452, Q_HB, Q_HO460, Q_HO467⟩)
           refine steps_cons ?_ ?_
           ·rintro b a w' ⟨v459, v466, ha, Q_BK452, Q_HB, Q_HO460, Q_HO467⟩ hb_ hon hoff
            refine ⟨_, rfl, fun K hK => ?_⟩
            have e1 : a.tmps[1]? = some (.pointer (some ⟨gb452, 0, none⟩)) := by rw [ha]; exact (putSel_off rfl).trans rfl
            replace ha := Aside0.mk ha
            have BK452 := Aside0.mk Q_BK452
            have HB := Aside0.mk Q_HB
            have hc0_ : w'.cell? ⟨gb452, 0, none⟩ = some (.int .i64 a0_0) := (blk_cell BK452.out 0).trans rfl
            have hc1_ : w'.cell? ⟨gb452, 1, none⟩ = some (.int .i64 a0_1) := (blk_cell BK452.out 1).trans rfl
            have hc2_ : w'.cell? ⟨gb452, 2, none⟩ = some (.bool a0_2) := (blk_cell BK452.out 2).trans rfl
            have hc3_ : w'.cell? ⟨gb452, 3, none⟩ = some (.bool a0_3) := (blk_cell BK452.out 3).trans rfl
            have hc4_ : w'.cell? ⟨gb452, 4, none⟩ = some (.int .i64 a0_4) := (blk_cell BK452.out 4).trans rfl
            have hc5_ : w'.cell? ⟨gb452, 5, none⟩ = some (.int .i64 a0_5) := (blk_cell BK452.out 5).trans rfl
            have hc6_ : w'.cell? ⟨gb452, 6, none⟩ = some (.int .i64 a0_6) := (blk_cell BK452.out 6).trans rfl
            have hc7_ : w'.cell? ⟨gb452, 7, none⟩ = some (.int .u32 a0_7) := (blk_cell BK452.out 7).trans rfl
            have hc8_ : w'.cell? ⟨gb452, 8, none⟩ = some (.int .u32 a0_8) := (blk_cell BK452.out 8).trans rfl
            have hc9_ : w'.cell? ⟨gb452, 9, none⟩ = some (.string a0_9) := (blk_cell BK452.out 9).trans rfl
            refine value_ (w1 := w') (v := .agg #[.int .i64 a0_0, .int .i64 a0_1, .bool a0_2, .bool a0_3, .int .i64 a0_4, .int .i64 a0_5, .int .i64 a0_6, .int .u32 a0_7, .int .u32 a0_8, .string a0_9]) qgcr rfl ?_ ?_
            ·go_simp
             (try simp only [i64_w])
             try rfl
            refine hK.out _ _ (by exact ⟨v459, v466, (by rw [ha.out]; exact putSel_upk 12 hb_ rfl rfl rfl), Q_BK452, Q_HB, Q_HO460, Q_HO467⟩)
           refine steps_cons ?_ ?_
           ·rintro b a w' ⟨v459, v466, ha, Q_BK452, Q_HB, Q_HO460, Q_HO467⟩ hb_ hon hoff
            refine ⟨_, rfl, fun K hK => ?_⟩
            have e45 : a.tmps[45]? = some (.agg #[.int .i64 a0_0, .int .i64 a0_1, .bool a0_2, .bool a0_3, .int .i64 a0_4, .int .i64 a0_5, .int .i64 a0_6, .int .u32 a0_7, .int .u32 a0_8, .string a0_9]) := by rw [ha]; exact putSel_on (e := (15, 45, .agg #[.int .i64 a0_0, .int .i64 a0_1, .bool a0_2, .bool a0_3, .int .i64 a0_4, .int .i64 a0_5, .int .i64 a0_6, .int .u32 a0_7, .int .u32 a0_8, .string a0_9])) 12 rfl rfl (hon 15 qg3m) rfl
            replace ha := Aside0.mk ha
            have BK452 := Aside0.mk Q_BK452
            have HB := Aside0.mk Q_HB
            refine goes_ Tryd.func49 qg3m rfl #[.agg #[.int .i64 a0_0, .int .i64 a0_1, .bool a0_2, .bool a0_3, .int .i64 a0_4, .int .i64 a0_5, .int .i64 a0_6, .int .u32 a0_7, .int .u32 a0_8, .string a0_9]] qlo1 rfl rfl (by first | (simp only [List.map_toArray, List.map_cons, List.map_nil, Act.eval, Array.getD_eq_getD_getElem?, Option.getD_some, e45]; done) | (simp only [List.map_toArray, List.map_cons, List.map_nil, Act.eval, Array.getD_eq_getD_getElem?, Option.getD_some, e45]; rfl)) ?_
            with_reducible refine (inet_flags.calls a0_0 a0_1 a0_2 a0_3 a0_4 a0_5 a0_6 a0_7 a0_8 a0_9 t463 _ A10.out).mono ?_
            rintro e w32 ⟨rfl, hb⟩
            refine ⟨_, rfl, ?_⟩
            have n0_ := Aside0.mk (blk_below (g := gb452) (o := .cells #[.int .i64 a0_0, .int .i64 a0_1, .bool a0_2, .bool a0_3, .int .i64 a0_4, .int .i64 a0_5, .int .i64 a0_6, .int .u32 a0_7, .int .u32 a0_8, .string a0_9] 64 (0, 0)) qqgy hb)
            have n1_ := Aside0.mk (below_step q5ec hb)
            have z_HO460 := fun (h0_ : b 3 = true) => (show Kd.R (Kd.int .u8) 5 w32 w.heap.size (fun _ => True) v459 y458 from by first | exact (Kd.R_below qlbs hb) | exact Kd.R_mono (Kd.R_below qlbs hb) (fun _ h_ => by first | trivial | exact h_ | exact h_.1))
            have z_HO467 := fun (h0_ : b 25 = true) => (show Kd.R (Kd.int .u8) 5 w32 w.heap.size (fun _ => True) v466 y465 from by first | exact (Kd.R_below q32g hb) | exact Kd.R_mono (Kd.R_below q32g hb) (fun _ h_ => by first | trivial | exact h_ | exact h_.1))
            clear BK452
            clear HB
            have BK452 := n0_
            have HB := n1_
            clear n0_ n1_
            (try clear hb)
            (try clear hb2)
            (try clear hk)
            (try clear hi)
            refine hK.out _ _ (by exact ⟨v459, v466, (by rw [ha.out]; exact putSel_upk 13 hb_ rfl rfl rfl), qqgy, q5ec, z_HO460, z_HO467⟩)
           refine steps_cons ?_ ?_
           ·rintro b a w' ⟨v459, v466, ha, Q_BK452, Q_HB, Q_HO460, Q_HO467⟩ hb_ hon hoff
            refine ⟨_, rfl, fun K hK => ?_⟩
            have e46 : a.tmps[46]? = some (.int .i64 t463) := by rw [ha]; exact putSel_on (e := (16, 46, .int .i64 t463)) 13 rfl rfl (hon 16 qg3m) rfl
            replace ha := Aside0.mk ha
            have BK452 := Aside0.mk Q_BK452
            have HB := Aside0.mk Q_HB
            refine goes_ Tryd.func48 qg3m rfl #[.int .i64 t463] qlo1 rfl rfl (by first | (simp only [List.map_toArray, List.map_cons, List.map_nil, Act.eval, Array.getD_eq_getD_getElem?, Option.getD_some, e46]; done) | (simp only [List.map_toArray, List.map_cons, List.map_nil, Act.eval, Array.getD_eq_getD_getElem?, Option.getD_some, e46]; rfl)) ?_
            with_reducible refine (inet_word.calls k t463 t464 _ A11.out).mono ?_
            rintro e w33 ⟨rfl, hb⟩
            refine ⟨_, rfl, ?_⟩
            have n0_ := Aside0.mk (blk_below (g := gb452) (o := .cells #[.int .i64 a0_0, .int .i64 a0_1, .bool a0_2, .bool a0_3, .int .i64 a0_4, .int .i64 a0_5, .int .i64 a0_6, .int .u32 a0_7, .int .u32 a0_8, .string a0_9] 64 (0, 0)) qqgy hb)
            have n1_ := Aside0.mk (below_step q5ec hb)
            have z_HO460 := fun (h0_ : b 3 = true) => (show Kd.R (Kd.int .u8) 5 w33 w.heap.size (fun _ => True) v459 y458 from by first | exact (Kd.R_below qlbs hb) | exact Kd.R_mono (Kd.R_below qlbs hb) (fun _ h_ => by first | trivial | exact h_ | exact h_.1))
            have z_HO467 := fun (h0_ : b 25 = true) => (show Kd.R (Kd.int .u8) 5 w33 w.heap.size (fun _ => True) v466 y465 from by first | exact (Kd.R_below q32g hb) | exact Kd.R_mono (Kd.R_below q32g hb) (fun _ h_ => by first | trivial | exact h_ | exact h_.1))
            clear BK452
            clear HB
            have BK452 := n0_
            have HB := n1_
            clear n0_ n1_
            (try clear hb)
            (try clear hb2)
            (try clear hk)
            (try clear hi)
            refine hK.out _ _ (by exact ⟨v459, v466, (by rw [ha.out]; exact putSel_upk 14 hb_ rfl rfl rfl), qqgy, q5ec, z_HO460, z_HO467⟩)
           refine steps_cons ?_ ?_
           ·rintro b a w' ⟨v459, v466, ha, Q_BK452, Q_HB, Q_HO460, Q_HO467⟩ hb_ hon hoff
            refine ⟨_, rfl, fun K hK => ?_⟩
            have e44 : a.tmps[44]? = some (.string (((strOfNums y458) ++ t461) ++ t462)) := by rw [ha]; exact putSel_on (e := (14, 44, .string (((strOfNums y458) ++ t461) ++ t462))) 11 rfl rfl (hon 14 qg3m) rfl
            have e47 : a.tmps[47]? = some (.string t464) := by rw [ha]; exact putSel_on (e := (17, 47, .string t464)) 14 rfl rfl (hon 17 qg3m) rfl
            replace ha := Aside0.mk ha
            have BK452 := Aside0.mk Q_BK452
            have HB := Aside0.mk Q_HB
            have HO460 := Aside0.mk (Q_HO460 (hon 3 qg3m))
            refine value_ (w1 := w') (v := .string ((((strOfNums y458) ++ t461) ++ t462) ++ t464)) qgcr rfl ?_ ?_
            ·go_simp
             (try simp only [i64_w])
             try rfl
            refine hK.out _ _ (by exact ⟨v459, v466, (by rw [ha.out]; exact putSel_upk 15 hb_ rfl rfl rfl), Q_BK452, Q_HB, Q_HO460, Q_HO467⟩)
           refine steps_cons ?_ ?_
           ·rintro b a w' ⟨v459, v466, ha, Q_BK452, Q_HB, Q_HO460, Q_HO467⟩ hb_ hon hoff
            refine ⟨_, rfl, fun K hK => ?_⟩
            have e49 : a.tmps[49]? = some (.pointer (some ⟨gb452, 5, none⟩)) := by rw [ha]; exact (putSel_off rfl).trans rfl
            replace ha := Aside0.mk ha
            have BK452 := Aside0.mk Q_BK452
            have HB := Aside0.mk Q_HB
            have hc0_ : w'.cell? ⟨gb452, 0, none⟩ = some (.int .i64 a0_0) := (blk_cell BK452.out 0).trans rfl
            have hc1_ : w'.cell? ⟨gb452, 1, none⟩ = some (.int .i64 a0_1) := (blk_cell BK452.out 1).trans rfl
            have hc2_ : w'.cell? ⟨gb452, 2, none⟩ = some (.bool a0_2) := (blk_cell BK452.out 2).trans rfl
            have hc3_ : w'.cell? ⟨gb452, 3, none⟩ = some (.bool a0_3) := (blk_cell BK452.out 3).trans rfl
            have hc4_ : w'.cell? ⟨gb452, 4, none⟩ = some (.int .i64 a0_4) := (blk_cell BK452.out 4).trans rfl
            have hc5_ : w'.cell? ⟨gb452, 5, none⟩ = some (.int .i64 a0_5) := (blk_cell BK452.out 5).trans rfl
            have hc6_ : w'.cell? ⟨gb452, 6, none⟩ = some (.int .i64 a0_6) := (blk_cell BK452.out 6).trans rfl
            have hc7_ : w'.cell? ⟨gb452, 7, none⟩ = some (.int .u32 a0_7) := (blk_cell BK452.out 7).trans rfl
            have hc8_ : w'.cell? ⟨gb452, 8, none⟩ = some (.int .u32 a0_8) := (blk_cell BK452.out 8).trans rfl
            have hc9_ : w'.cell? ⟨gb452, 9, none⟩ = some (.string a0_9) := (blk_cell BK452.out 9).trans rfl
            refine value_ (w1 := w') (v := .int .i64 a0_5) qgcr rfl ?_ ?_
            ·go_simp
             (try simp only [i64_w])
             try rfl
            refine hK.out _ _ (by exact ⟨v459, v466, (by rw [ha.out]; exact putSel_upk 16 hb_ rfl rfl rfl), Q_BK452, Q_HB, Q_HO460, fun h0_ => absurd ((hoff 25 qg3m).symm.trans h0_) qomw⟩)
           refine steps_cons ?_ ?_
           ·rintro b a w' ⟨v459, v466, ha, Q_BK452, Q_HB, Q_HO460, Q_HO467⟩ hb_ hon hoff
            refine ⟨_, rfl, fun K hK => ?_⟩
            have e50 : a.tmps[50]? = some (.int .i64 a0_5) := by rw [ha]; exact putSel_on (e := (20, 50, .int .i64 a0_5)) 16 rfl rfl (hon 20 qg3m) rfl
            replace ha := Aside0.mk ha
            have BK452 := Aside0.mk Q_BK452
            have HB := Aside0.mk Q_HB
            refine value_ (w1 := w') (v := .int .u8 ((a0_5) % 256)) qgcr rfl ?_ ?_
            ·go_simp
             (try simp only [i64_w])
             try rfl
            refine hK.out _ _ (by exact ⟨v459, v466, (by rw [ha.out]; exact putSel_upk 17 hb_ rfl rfl rfl), Q_BK452, Q_HB, Q_HO460, fun h0_ => absurd ((hoff 25 qg3m).symm.trans h0_) qomw⟩)
           refine steps_cons ?_ ?_
           ·rintro b a w' ⟨v459, v466, ha, Q_BK452, Q_HB, Q_HO460, Q_HO467⟩ hb_ hon hoff
            refine ⟨_, rfl, fun K hK => ?_⟩
            have e52 : a.tmps[52]? = some (.pointer (some ⟨gb452, 6, none⟩)) := by rw [ha]; exact (putSel_off rfl).trans rfl
            replace ha := Aside0.mk ha
            have BK452 := Aside0.mk Q_BK452
            have HB := Aside0.mk Q_HB
            have hc0_ : w'.cell? ⟨gb452, 0, none⟩ = some (.int .i64 a0_0) := (blk_cell BK452.out 0).trans rfl
            have hc1_ : w'.cell? ⟨gb452, 1, none⟩ = some (.int .i64 a0_1) := (blk_cell BK452.out 1).trans rfl
            have hc2_ : w'.cell? ⟨gb452, 2, none⟩ = some (.bool a0_2) := (blk_cell BK452.out 2).trans rfl
            have hc3_ : w'.cell? ⟨gb452, 3, none⟩ = some (.bool a0_3) := (blk_cell BK452.out 3).trans rfl
            have hc4_ : w'.cell? ⟨gb452, 4, none⟩ = some (.int .i64 a0_4) := (blk_cell BK452.out 4).trans rfl
            have hc5_ : w'.cell? ⟨gb452, 5, none⟩ = some (.int .i64 a0_5) := (blk_cell BK452.out 5).trans rfl
            have hc6_ : w'.cell? ⟨gb452, 6, none⟩ = some (.int .i64 a0_6) := (blk_cell BK452.out 6).trans rfl
            have hc7_ : w'.cell? ⟨gb452, 7, none⟩ = some (.int .u32 a0_7) := (blk_cell BK452.out 7).trans rfl
            have hc8_ : w'.cell? ⟨gb452, 8, none⟩ = some (.int .u32 a0_8) := (blk_cell BK452.out 8).trans rfl
            have hc9_ : w'.cell? ⟨gb452, 9, none⟩ = some (.string a0_9) := (blk_cell BK452.out 9).trans rfl
            refine value_ (w1 := w') (v := .int .i64 a0_6) qgcr rfl ?_ ?_
            ·go_simp
             (try simp only [i64_w])
             try rfl
            refine hK.out _ _ (by exact ⟨v459, v466, (by rw [ha.out]; exact putSel_upk 18 hb_ rfl rfl rfl), Q_BK452, Q_HB, Q_HO460, fun h0_ => absurd ((hoff 25 qg3m).symm.trans h0_) qomw⟩)
           refine steps_cons ?_ ?_
           ·rintro b a w' ⟨v459, v466, ha, Q_BK452, Q_HB, Q_HO460, Q_HO467⟩ hb_ hon hoff
            refine ⟨_, rfl, fun K hK => ?_⟩
            have e53 : a.tmps[53]? = some (.int .i64 a0_6) := by rw [ha]; exact putSel_on (e := (23, 53, .int .i64 a0_6)) 18 rfl rfl (hon 23 qg3m) rfl
            replace ha := Aside0.mk ha
            have BK452 := Aside0.mk Q_BK452
            have HB := Aside0.mk Q_HB
            refine value_ (w1 := w') (v := .int .u8 ((a0_6) % 256)) qgcr rfl ?_ ?_
            ·go_simp
             (try simp only [i64_w])
             try rfl
            refine hK.out _ _ (by exact ⟨v459, v466, (by rw [ha.out]; exact putSel_upk 19 hb_ rfl rfl rfl), Q_BK452, Q_HB, Q_HO460, fun h0_ => absurd ((hoff 25 qg3m).symm.trans h0_) qomw⟩)
           refine steps_cons ?_ ?_
           ·rintro b a w' ⟨v459, v466, ha, Q_BK452, Q_HB, Q_HO460, Q_HO467⟩ hb_ hon hoff
            refine ⟨_, rfl, fun K hK => ?_⟩
            have e51 : a.tmps[51]? = some (.int .u8 ((a0_5) % 256)) := by rw [ha]; exact putSel_on (e := (21, 51, .int .u8 ((a0_5) % 256))) 17 rfl rfl (hon 21 qg3m) rfl
            have e54 : a.tmps[54]? = some (.int .u8 ((a0_6) % 256)) := by rw [ha]; exact putSel_on (e := (24, 54, .int .u8 ((a0_6) % 256))) 19 rfl rfl (hon 24 qg3m) rfl
            replace ha := Aside0.mk ha
            have BK452 := Aside0.mk Q_BK452
            have HB := Aside0.mk Q_HB
            refine Kd.R_lit_step (Kd.int .u8) _ 5 ?hg (N := 55) ?hd (xs := ([(a0_5) % 256, (a0_6) % 256] : List Int)) (inner := [.int .u8 ((a0_5) % 256), .int .u8 ((a0_6) % 256)]) (ok := fun _ => True) (okp := fun _ => True) ?hr ?hp (fun _ hk => hk) trivial (Below.refl _ _) (Nat.le_refl _) q6hr ?_; (case hd => rfl); (case hg => rfl); (case hr => first | (go_simp; done) | (go_simp; rfl)); (case hp => exact (Reps.one (show Kd.M (Kd.int .u8) _ _ _ ((a0_5) % 256) [.int .u8 ((a0_5) % 256)] from rfl) (Reps.one (show Kd.M (Kd.int .u8) _ _ _ ((a0_6) % 256) [.int .u8 ((a0_6) % 256)] from rfl) (Reps.none _ _))))
            intro v466 w29 ho30 hb hg_ hnew_
            clear hg_ hnew_
            (first | rw [← Ny465.out] at ho30 | (simp only [Int.reduceToNat] at ho30; rw [← Ny465.out] at ho30))
            have n0_ := Aside0.mk (Kd.R_lower ho30 (below_size q5ec))
            have n1_ := Aside0.mk (blk_below (g := gb452) (o := .cells #[.int .i64 a0_0, .int .i64 a0_1, .bool a0_2, .bool a0_3, .int .i64 a0_4, .int .i64 a0_5, .int .i64 a0_6, .int .u32 a0_7, .int .u32 a0_8, .string a0_9] 64 (0, 0)) qqgy hb)
            have n2_ := Aside0.mk (below_step q5ec hb)
            have z_HO460 := fun (h0_ : b 3 = true) => (show Kd.R (Kd.int .u8) 5 w29 w.heap.size (fun _ => True) v459 y458 from by first | exact (Kd.R_elder' qlbs (Kd.R_base ho30) hb) | exact Kd.R_mono (Kd.R_elder' qlbs (Kd.R_base ho30) hb) (fun _ h_ => by first | trivial | exact h_ | exact h_.1))
            clear BK452
            clear HB
            have HO467 := n0_
            have BK452 := n1_
            have HB := n2_
            clear n0_ n1_ n2_
            clear hb ho30
            refine hK.out _ _ (by exact ⟨v459, v466, (by rw [ha.out]; exact putSel_upk 20 hb_ rfl rfl rfl), qqgy, q5ec, z_HO460, fun _ => qncv⟩)
           refine steps_cons ?_ ?_
           ·rintro b a w' ⟨v459, v466, ha, Q_BK452, Q_HB, Q_HO460, Q_HO467⟩ hb_ hon hoff
            refine ⟨_, rfl, fun K hK => ?_⟩
            have e55 : a.tmps[55]? = some (v466) := by rw [ha]; exact putSel_on (e := (25, 55, v466)) 20 rfl rfl (hon 25 qg3m) rfl
            replace ha := Aside0.mk ha
            have BK452 := Aside0.mk Q_BK452
            have HB := Aside0.mk Q_HB
            have HO467 := Aside0.mk (Q_HO467 (hon 25 qg3m))
            obtain ⟨Ao26_0, co26_0, eo_⟩ := Kd.R_slice HO467.out
            subst eo_
            have hcv26_ := own_string (P := Tryd.prog) Tryd.underlying48 Tryd.underlying5 Tryd.underlying9 (Kd.own_of_R HO467.out)
            refine value_ (w1 := w') (v := .string (strOfNums y465)) qgcr rfl ?_ ?_
            ·go_simp
             (try simp only [i64_w])
             try rfl
            refine hK.out _ _ (by exact ⟨v459, .slice Ao26_0 y465.length co26_0, (by rw [ha.out]; exact putSel_upk 21 hb_ rfl rfl rfl), Q_BK452, Q_HB, Q_HO460, Q_HO467⟩)
           refine steps_cons ?_ ?_
           ·rintro b a w' ⟨v459, v466, ha, Q_BK452, Q_HB, Q_HO460, Q_HO467⟩ hb_ hon hoff
            refine ⟨_, rfl, fun K hK => ?_⟩
            have e48 : a.tmps[48]? = some (.string ((((strOfNums y458) ++ t461) ++ t462) ++ t464)) := by rw [ha]; exact putSel_on (e := (18, 48, .string ((((strOfNums y458) ++ t461) ++ t462) ++ t464))) 15 rfl rfl (hon 18 qg3m) rfl
            have e56 : a.tmps[56]? = some (.string (strOfNums y465)) := by rw [ha]; exact putSel_on (e := (26, 56, .string (strOfNums y465))) 21 rfl rfl (hon 26 qg3m) rfl
            replace ha := Aside0.mk ha
            have BK452 := Aside0.mk Q_BK452
            have HB := Aside0.mk Q_HB
            have HO460 := Aside0.mk (Q_HO460 (hon 3 qg3m))
            have HO467 := Aside0.mk (Q_HO467 (hon 25 qg3m))
            refine value_ (w1 := w') (v := .string (((((strOfNums y458) ++ t461) ++ t462) ++ t464) ++ (strOfNums y465))) qgcr rfl ?_ ?_
            ·go_simp
             (try simp only [i64_w])
             try rfl
            refine hK.out _ _ (by exact ⟨v459, v466, (by rw [ha.out]; exact putSel_upk 22 hb_ rfl rfl rfl), Q_BK452, Q_HB, Q_HO460, Q_HO467⟩)
           refine steps_cons ?_ ?_
           ·rintro b a w' ⟨v459, v466, ha, Q_BK452, Q_HB, Q_HO460, Q_HO467⟩ hb_ hon hoff
            refine ⟨_, rfl, fun K hK => ?_⟩
            have e57 : a.tmps[57]? = some (.string (((((strOfNums y458) ++ t461) ++ t462) ++ t464) ++ (strOfNums y465))) := by rw [ha]; exact putSel_on (e := (27, 57, .string (((((strOfNums y458) ++ t461) ++ t462) ++ t464) ++ (strOfNums y465)))) 22 rfl rfl (hon 27 qg3m) rfl
            replace ha := Aside0.mk ha
            have BK452 := Aside0.mk Q_BK452
            have HB := Aside0.mk Q_HB
            have HO460 := Aside0.mk (Q_HO460 (hon 3 qg3m))
            have HO467 := Aside0.mk (Q_HO467 (hon 25 qg3m))
            refine value_ (w1 := w') (v := .string (((((strOfNums y458) ++ t461) ++ t462) ++ t464) ++ (strOfNums y465))) qgcr rfl ?_ ?_
            ·go_simp
             (try simp only [i64_w])
             try rfl
            refine hK.out _ _ (by exact ⟨v459, v466, (by rw [ha.out]; exact putSel_upk 23 hb_ rfl rfl rfl), Q_BK452, Q_HB, Q_HO460, Q_HO467⟩)
           exact steps_nil
          rintro b a w37 hall ⟨v459, v466, ha, Q_BK452, Q_HB, Q_HO460, Q_HO467⟩
          clear BK452 HB
          have hb1_ := hall 1 qg3m
          have hb2_ := hall 2 qg3m
          have hb3_ := hall 3 qg3m
          have hb4_ := hall 4 qg3m
          have hb6_ := hall 6 qg3m
          have hb7_ := hall 7 qg3m
          have hb8_ := hall 8 qg3m
          have hb9_ := hall 9 qg3m
          have hb10_ := hall 10 qg3m
          have hb12_ := hall 12 qg3m
          have hb13_ := hall 13 qg3m
          have hb14_ := hall 14 qg3m
          have hb15_ := hall 15 qg3m
          have hb16_ := hall 16 qg3m
          have hb17_ := hall 17 qg3m
          have hb18_ := hall 18 qg3m
          have hb20_ := hall 20 qg3m
          have hb21_ := hall 21 qg3m
          have hb23_ := hall 23 qg3m
          have hb24_ := hall 24 qg3m
          have hb25_ := hall 25 qg3m
          have hb26_ := hall 26 qg3m
          have hb27_ := hall 27 qg3m
          have hb28_ := hall 28 qg3m
          subst ha
          simp only [putSel, hb1_, hb2_, hb3_, hb4_, hb6_, hb7_, hb8_, hb9_, hb10_, hb12_, hb13_, hb14_, hb15_, hb16_, hb17_, hb18_, hb20_, hb21_, hb23_, hb24_, hb25_, hb26_, hb27_, hb28_, if_true, Act.put, List.setIfInBounds_toArray, List.set_cons_zero, List.set_cons_succ]
          have BK452 := Aside0.mk Q_BK452
          clear Q_BK452
          have HB := Aside0.mk Q_HB
          clear Q_HB
          have HO460 := Aside0.mk (Q_HO460 hb3_)
          clear Q_HO460
          have HO467 := Aside0.mk (Q_HO467 hb25_)
          clear Q_HO467
          clear hall hb1_ hb2_ hb3_ hb4_ hb6_ hb7_ hb8_ hb9_ hb10_ hb12_ hb13_ hb14_ hb15_ hb16_ hb17_ hb18_ hb20_ hb21_ hb23_ hb24_ hb25_ hb26_ hb27_ hb28_
          try go_wp2_with (first | ((with_reducible refine gate_st (ty := 64) rfl ?_); refine storeC10 rfl rfl rfl rfl rfl q9wl qr2c qg3m rfl ?_) | ((with_reducible refine gate_ld (ty := 64) rfl ?_); (try (with_reducible refine gate_gd rfl ?_; refine gate_guard q8ju ?_; dsimp only)); refine load_st rfl rfl rfl q9wl qr2c Tryd.underlying64 rfl qg3m ?_; (try simp only [Act.put, List.setIfInBounds_toArray, List.set_cons_zero, List.set_cons_succ])) | go_in)
          replace HO460 := Aside0.mk (Kd.R_drew HO460.out)
          replace HO467 := Aside0.mk (Kd.R_drew HO467.out)
          replace BK452 := Aside0.mk (blk_drew BK452.out)
          replace HB := Aside0.mk (below_drew1 HB.out)
          refine start_ (n := 15) (S := fun w' => w'.cell? ⟨gb452, 0, none⟩ = some (.int .i64 a0_0) ∧ w'.cell? ⟨gb452, 1, none⟩ = some (.int .i64 a0_1) ∧ w'.cell? ⟨gb452, 2, none⟩ = some (.bool a0_2) ∧ w'.cell? ⟨gb452, 3, none⟩ = some (.bool a0_3) ∧ w'.cell? ⟨gb452, 4, none⟩ = some (.int .i64 a0_4) ∧ w'.cell? ⟨gb452, 5, none⟩ = some (.int .i64 a0_5) ∧ w'.cell? ⟨gb452, 6, none⟩ = some (.int .i64 a0_6) ∧ w'.cell? ⟨gb452, 7, none⟩ = some (.int .u32 a0_7) ∧ w'.cell? ⟨gb452, 8, none⟩ = some (.int .u32 a0_8) ∧ w'.cell? ⟨gb452, 9, none⟩ = some (.string a0_9)) (ds := []) (ba 15 0) qg3m rfl rfl ⟨(blk_cell BK452.out 0).trans rfl, (blk_cell BK452.out 1).trans rfl, (blk_cell BK452.out 2).trans rfl, (blk_cell BK452.out 3).trans rfl, (blk_cell BK452.out 4).trans rfl, (blk_cell BK452.out 5).trans rfl, (blk_cell BK452.out 6).trans rfl, (blk_cell BK452.out 7).trans rfl, (blk_cell BK452.out 8).trans rfl, (blk_cell BK452.out 9).trans rfl⟩ (fun hHeld => ?_); refine with_tabW inet_Build.tab8 inet_Build.bits8 (fun HT_ HW_ => ?_)
          generalize w37.drew = w40 at HO460 HO467 BK452 HB hHeld ⊢
          refine pu_c3d (i := 0) (N := some 61) (ba 15 1) ?_
          refine pu_c3d (i := 1) (N := some 62) (ba 15 3) ?_
          refine pu_c3d (i := 3) (N := some 64) (ba 15 11) ?_
          refine pu_c3d (i := 8) (N := some 69) (ba 15 267) ?_
          refine pu_c3d (i := 10) (N := some 71) (ba 15 1291) ?_
          refine tk_d0b (i := 11) (N := some 72) (ba 15 3339) hHeld ?_
          refine one_ (i := 2) (N := some 63) (ba 15 3343) rfl rfl (one_of HT_.out qg3m) qomw (fun K hK => ?_)
          refine goes_ Tryd.func48 qg3m rfl #[.int .i64 0] qlo1 rfl rfl qraq ?_
          with_reducible refine (inet_word.calls k 0 t468 _ A15.out).mono ?_
          rintro e w41 ⟨rfl, hb⟩
          refine ⟨_, rfl, ?_⟩
          replace HO460 := Aside0.mk (Kd.R_below qfam hb)
          replace HO467 := Aside0.mk (Kd.R_below qncv hb)
          replace BK452 := Aside0.mk (blk_below (g := gb452) (o := .cells #[.int .i64 a0_0, .int .i64 a0_1, .bool a0_2, .bool a0_3, .int .i64 a0_4, .int .i64 a0_5, .int .i64 a0_6, .int .u32 a0_7, .int .u32 a0_8, .string a0_9] 64 (0, 0)) qqgy hb)
          replace HB := Aside0.mk (below_step q5ec hb)
          (try clear hb)
          (try clear hb2)
          (try clear hk)
          (try clear hi)
          refine hK.out _ _ qq9y (fun hHeld => ?_)
          clear hK K
          refine norm_ (a' := ?_) ?_ ?_
          rotate_left
          ·show Act.put _ (some 63) _ = _
           simp only [Act.put, List.setIfInBounds_toArray, List.set_cons_zero, List.set_cons_succ, i64_w, i32_w]
           rfl
          refine one_ (i := 4) (N := some 65) (ba 15 3359) rfl rfl (one_of HT_.out qg3m) qomw (fun K hK => ?_)
          refine Kd.R_lit_step Kd.string _ 9 ?hg (N := 65) ?hd (xs := ([((((strOfNums y458) ++ t461) ++ t462) ++ t464) ++ (strOfNums y465), t468, t454 ++ t456] : List ByteArray)) (inner := [.string (((((strOfNums y458) ++ t461) ++ t462) ++ t464) ++ (strOfNums y465)), .string t468, .string (t454 ++ t456)]) (ok := fun _ => True) (okp := fun _ => True) ?hr ?hp (fun _ hk => hk) trivial (Below.refl _ _) (Nat.le_refl _) q6hr ?_; (case hd => rfl); (case hg => rfl); (case hr => first | (go_simp; done) | (go_simp; rfl)); (case hp => exact (Reps.one (show Kd.M Kd.string _ _ _ (((((strOfNums y458) ++ t461) ++ t462) ++ t464) ++ (strOfNums y465)) [.string (((((strOfNums y458) ++ t461) ++ t462) ++ t464) ++ (strOfNums y465))] from rfl) (Reps.one (show Kd.M Kd.string _ _ _ t468 [.string t468] from rfl) (Reps.one (show Kd.M Kd.string _ _ _ (t454 ++ t456) [.string (t454 ++ t456)] from rfl) (Reps.none _ _)))))
          intro v470 w42 ho43 hb hg_ hnew_
          clear hg_ hnew_
          (first | rw [← Ny469.out] at ho43 | (simp only [Int.reduceToNat] at ho43; rw [← Ny469.out] at ho43))
          have HO471 := Aside0.mk (Kd.R_lower ho43 (below_size q5ec))
          replace HO460 := Aside0.mk (Kd.R_below qfam hb)
          replace HO467 := Aside0.mk (Kd.R_below qncv hb)
          replace BK452 := Aside0.mk (blk_below (g := gb452) (o := .cells #[.int .i64 a0_0, .int .i64 a0_1, .bool a0_2, .bool a0_3, .int .i64 a0_4, .int .i64 a0_5, .int .i64 a0_6, .int .u32 a0_7, .int .u32 a0_8, .string a0_9] 64 (0, 0)) qqgy hb)
          replace HB := Aside0.mk (below_step q5ec hb)
          clear hb ho43
          obtain ⟨Ao44, co44, eo44⟩ := Kd.R_slice HO471.out
          (first | subst eo44 | (injection eo44 with f1_ f2_ f3_; have f4_ := f1_.symm; have f5_ := f3_.symm; clear f1_ f2_ f3_; subst f4_; subst f5_))
          refine hK.out _ _ qq9y (fun hHeld => ?_)
          clear hK K
          refine norm_ (a' := ?_) ?_ ?_
          rotate_left
          ·show Act.put _ (some 65) _ = _
           simp only [Act.put, List.setIfInBounds_toArray, List.set_cons_zero, List.set_cons_succ, i64_w, i32_w]
           rfl
          refine one_ (i := 5) (N := some 66) (ba 15 3391) rfl rfl (one_of HT_.out qg3m) qomw (fun K hK => ?_)
          refine goes_ Tryd.func44 qg3m rfl #[.slice Ao44 y469.length co44] qlo1 rfl rfl qraq ?_
          with_reducible refine (csum_Of.calls k _ _ y469 t472 _ ?side1 ?side2 A16.out).mono ?_
          (case side1 => repeat (first | exact (Kd.R_reads' HO471.out).2.2 | (with_reducible refine Kd.C_alloc ?_ _) | (with_reducible refine Kd.C_drewN ?_ _) | (with_reducible refine Kd.C_drew ?_)))
          (case side2 => exact (Kd.R_reads' HO471.out).2.1)
          rintro e w45 ⟨rfl, hb⟩
          refine ⟨_, rfl, ?_⟩
          replace HO460 := Aside0.mk (Kd.R_below qfam hb)
          replace HO467 := Aside0.mk (Kd.R_below qncv hb)
          replace HO471 := Aside0.mk (Kd.R_below (by (with_reducible repeat (first | apply Kd.R_alloc | apply Kd.R_drewN | apply Kd.R_drew)); exact HO471.out) hb)
          replace BK452 := Aside0.mk (blk_below (g := gb452) (o := .cells #[.int .i64 a0_0, .int .i64 a0_1, .bool a0_2, .bool a0_3, .int .i64 a0_4, .int .i64 a0_5, .int .i64 a0_6, .int .u32 a0_7, .int .u32 a0_8, .string a0_9] 64 (0, 0)) qqgy hb)
          replace HB := Aside0.mk (below_step q5ec hb)
          (try clear hb)
          (try clear hb2)
          (try clear hk)
          (try clear hi)
          refine hK.out _ _ qq9y (fun hHeld => ?_)
          clear hK K
          refine norm_ (a' := ?_) ?_ ?_
          rotate_left
          ·show Act.put _ (some 66) _ = _
           simp only [Act.put, List.setIfInBounds_toArray, List.set_cons_zero, List.set_cons_succ, i64_w, i32_w]
           rfl
          refine one_ (i := 6) (N := some 67) (ba 15 3455) rfl rfl (one_of HT_.out qg3m) qomw (fun K hK => ?_)
          refine goes_ Tryd.func48 qg3m rfl #[.int .i64 t472] qlo1 rfl rfl qraq ?_
          with_reducible refine (inet_word.calls k t472 t473 _ A17.out).mono ?_
          rintro e w46 ⟨rfl, hb⟩
          refine ⟨_, rfl, ?_⟩
          replace HO460 := Aside0.mk (Kd.R_below qfam hb)
          replace HO467 := Aside0.mk (Kd.R_below qncv hb)
          replace HO471 := Aside0.mk (Kd.R_below (by (with_reducible repeat (first | apply Kd.R_alloc | apply Kd.R_drewN | apply Kd.R_drew)); exact HO471.out) hb)
          replace BK452 := Aside0.mk (blk_below (g := gb452) (o := .cells #[.int .i64 a0_0, .int .i64 a0_1, .bool a0_2, .bool a0_3, .int .i64 a0_4, .int .i64 a0_5, .int .i64 a0_6, .int .u32 a0_7, .int .u32 a0_8, .string a0_9] 64 (0, 0)) qqgy hb)
          replace HB := Aside0.mk (below_step q5ec hb)
          (try clear hb)
          (try clear hb2)
          (try clear hk)
          (try clear hi)
          refine hK.out _ _ qq9y (fun hHeld => ?_)
          clear hK K
          refine norm_ (a' := ?_) ?_ ?_
          rotate_left
          ·show Act.put _ (some 67) _ = _
           simp only [Act.put, List.setIfInBounds_toArray, List.set_cons_zero, List.set_cons_succ, i64_w, i32_w]
           rfl
          refine pu_c3d (i := 7) (N := some 68) (ba 15 3583) ?_
          refine pu_c3d (i := 9) (N := some 70) (ba 15 4095) ?_
          refine pu_c3d (i := 12) (N := some 73) (ba 15 8191) ?_
          refine pu_c3d (i := 13) (N := some 2) (ba 15 16383) ?_
          refine pu_c3d (i := 14) (N := some 3) (ba 15 32767) ?_
          refine done_ (done_of HT_.out qg3m) ?_
          try go_wp2_with (first | ((with_reducible refine gate_st (ty := 64) rfl ?_); refine storeC10 rfl rfl rfl rfl rfl q9wl qr2c qg3m rfl ?_) | ((with_reducible refine gate_ld (ty := 64) rfl ?_); (try (with_reducible refine gate_gd rfl ?_; refine gate_guard q8ju ?_; dsimp only)); refine load_st rfl rfl rfl q9wl qr2c Tryd.underlying64 rfl qg3m ?_; (try simp only [Act.put, List.setIfInBounds_toArray, List.set_cons_zero, List.set_cons_succ])) | go_in)
          go_ret2
          exact ⟨qxu5, q5ec⟩
         ·rw [if_neg c20] at H
          exact absurd H q6hr
        ·rw [if_neg c19] at H
         exact absurd H q6hr
       ·rw [if_neg c18] at H
        exact absurd H q6hr
      ·rw [if_neg c14] at H
       exact absurd H q6hr
     ·rw [if_neg c13] at H
      exact absurd H q6hr
    ·rw [if_neg c12] at H
     exact absurd H q6hr
   ·rw [if_neg c9] at H
    exact absurd H q6hr
  ·rw [if_neg c7] at H
   exact absurd H q6hr
 ·rw [if_neg c3] at H
  have c3b0 : (t453 == 0) = false := beq_eq_false_iff_ne.mpr c3
  have c3b1 : (t453 != 0) = true := bne_iff_ne.mpr c3
  simp only [Option.some.injEq, Prod.mk.injEq] at H
  obtain ⟨rfl, rfl⟩ := H
  go_enter Tryd.func24, Tryd.ntmps24
  go_wp2_with (first | ((with_reducible refine gate_st (ty := 64) rfl ?_); refine storeC10 rfl rfl rfl rfl rfl q9wl qr2c qg3m rfl ?_) | ((with_reducible refine gate_ld (ty := 64) rfl ?_); (try (with_reducible refine gate_gd rfl ?_; refine gate_guard q8ju ?_; dsimp only)); refine load_st rfl rfl rfl q9wl qr2c Tryd.underlying64 rfl qg3m ?_; (try simp only [Act.put, List.setIfInBounds_toArray, List.set_cons_zero, List.set_cons_succ])) | ((with_reducible refine gate_dst (N := 1) rfl ?_); refine box_event qgcr (N := 1) qgcr (cs := #[.int .i64 a0_0, .int .i64 a0_1, .bool a0_2, .bool a0_3, .int .i64 a0_4, .int .i64 a0_5, .int .i64 a0_6, .int .u32 a0_7, .int .u32 a0_8, .string a0_9]) (t := 64) qlto ?_; intro gb452 hg w47 hbox hb; have BK452 := Aside0.mk (hbox); have GE452 := Aside0.mk ((qisx : w.heap.size ≤ gb452)); replace HB := Aside0.mk (below_step qpag hb); clear hb hbox hg; obtain ⟨hcz48_0, hcz48_1, hcz48_2, hcz48_3, hcz48_4, hcz48_5, hcz48_6, hcz48_7, hcz48_8, hcz48_9⟩ := cells10 BK452.out; obtain ⟨hfz48_0, hfz48_1, hfz48_2, hfz48_3, hfz48_4, hfz48_5, hfz48_6, hfz48_7, hfz48_8, hfz48_9⟩ := frozen10 BK452.out) | ((with_reducible refine gate_callee (f := 46) rfl ?_); refine goesL_ (some 12) rfl rfl Tryd.func46 qg3m rfl #[.agg #[.int .i64 a0_0, .int .i64 a0_1, .bool a0_2, .bool a0_3, .int .i64 a0_4, .int .i64 a0_5, .int .i64 a0_6, .int .u32 a0_7, .int .u32 a0_8, .string a0_9]] rfl qraq ?_; (with_reducible refine (inet_Check.calls a0_0 a0_1 a0_2 a0_3 a0_4 a0_5 a0_6 a0_7 a0_8 a0_9 t453 _ A2.out).mono ?_); rintro e w49 ⟨rfl, hb⟩; refine ⟨_, rfl, ?_⟩; replace BK452 := Aside0.mk (blk_below (g := gb452) qqgy hb); replace HB := Aside0.mk (below_step q5ec hb); obtain ⟨hcy1_452_0, hcy1_452_1, hcy1_452_2, hcy1_452_3, hcy1_452_4, hcy1_452_5, hcy1_452_6, hcy1_452_7, hcy1_452_8, hcy1_452_9⟩ := cells10 BK452.out; (try clear hb); (try clear hb2); (try clear hk); (try clear hi)))
  go_ret2
  exact ⟨qxu5, q5ec⟩

end Go.Proofs.YtbkgaplldfilnaaDoor.P
